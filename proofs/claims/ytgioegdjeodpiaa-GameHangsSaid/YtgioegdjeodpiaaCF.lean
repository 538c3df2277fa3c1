/- GameHangs: another random byte, other keys, another key, another font change nothing but where the order asks for them; no condition. -/
import Derived.Test.YtgioegdjeodpiaaCE
import Derived.Laws.BitsAllLaws
import Derived.Test.YtgioegdjeodpiaaRows
set_option linter.unusedVariables false
set_option linter.unusedSimpArgs false
namespace Go.Proofs.Ytgioegdjeodpiaa
open Go.RowKit Go.SX
/-! Random bytes, keys, fonts matter where an order asks for them, and nowhere else. -/
structure Alike (g : GM) (o : Ord) (f f' : Fnt) (d d' : Feed) : Prop where
  rnd : o.op = 19 → d'.rnd = d.rnd
  down : o.op = 21 ∨ o.op = 22 → downG g o d' = downG g o d
  key : o.op = 24 → d'.key = d.key
  font : o.op = 28 ∨ o.op = 20 ∨ o.op = 31 → f' = f
theorem do_alike {g : GM} {o : Ord} {f f' : Fnt} {d d' : Feed} (h2 : 2 ≤ o.op) (h31 : o.op ≤ 31) (ha : Alike g o f f' d d') : doG g o f' d' = doG g o f d := by
  have h : o.op = 2 ∨ o.op = 3 ∨ o.op = 4 ∨ o.op = 5 ∨ o.op = 6 ∨ o.op = 7 ∨ o.op = 8 ∨ o.op = 9 ∨ o.op = 10 ∨ o.op = 11 ∨ o.op = 12 ∨ o.op = 13 ∨ o.op = 14 ∨ o.op = 15 ∨ o.op = 16 ∨ o.op = 17 ∨ o.op = 18 ∨ o.op = 19 ∨ o.op = 20 ∨ o.op = 21 ∨ o.op = 22 ∨ o.op = 23 ∨ o.op = 24 ∨ o.op = 25 ∨ o.op = 26 ∨ o.op = 27 ∨ o.op = 28 ∨ o.op = 29 ∨ o.op = 30 ∨ o.op = 31 := by omega
  unfold doG
  rcases h with h | h | h | h | h | h | h | h | h | h | h | h | h | h | h | h | h | h | h | h | h | h | h | h | h | h | h | h | h | h <;> rw [h] <;> try rfl
  · show letG g o (bits .and .u8 d'.rnd (o.b : Int)) = letG g o (bits .and .u8 d.rnd (o.b : Int))
    rw [ha.rnd h]
  · show drawG g o f' = drawG g o f
    rw [ha.font (.inr (.inl h))]
  · show skipG g (downG g o d') = skipG g (downG g o d)
    rw [ha.down (.inl h)]
  · show skipG g (!downG g o d') = skipG g (!downG g o d)
    rw [ha.down (.inr h)]
  · show keyG g o d' = keyG g o d
    unfold keyG
    rw [ha.key h]
  · show ((1 : Int), ({ g with I := f'.at_.getD (vG g o.x % 16).toNat 0 } : GM)) = (1, { g with I := f.at_.getD (vG g o.x % 16).toNat 0 })
    rw [ha.font (.inl h)]
  · show fillG g o f' = fillG g o f
    rw [ha.font (.inr (.inr h))]
theorem step_alike {g : GM} {f f' : Fnt} {d d' : Feed} (h0 : (stepG g f d).2.2 = 0) (hn : (nextG g).2 = 1) (h1 : (stepG g f' d').2.2 = 0) (ha : Alike g (nextG g).1 f f' d d') : stepG g f' d' = stepG g f d := by
  have hd := nextG_dec hn
  unfold stepG at h0 h1 ⊢
  split at h0
  · rename_i hc
    rw [if_pos hc]
    rw [if_pos hc]
  · rename_i hc
    rw [if_neg hc] at h1 ⊢
    rw [if_neg hc]
    split at h0
    · cases h0
    · rename_i h2
      rw [if_neg h2]
      split at h1
      · cases h1
      · rename_i h3
        have hne : ¬ (nextG g).2 ≠ 1 := by rw [hn]; simp
        rw [if_neg h3, if_neg hne, if_neg hne]
        rw [do_alike (g := { g with PC := IntKind.u16.wrap (g.PC + 2) }) hd.2 hd.1.op2 ⟨ha.rnd, ha.down, ha.key, ha.font⟩]
theorem keys_same {A B s : Nat} (hA : A < 65536) (hB : B < 65536) (hs : s < 16) : bits .and .u16 (Int.fdiv (bits .or .u16 (bits .andNot .u16 (A : Int) ((2 ^ s : Nat) : Int)) (bits .and .u16 (B : Int) ((2 ^ s : Nat) : Int))) (2 ^ min s 16)) 1 = bits .and .u16 (Int.fdiv (B : Int) (2 ^ min s 16)) 1 := by
  have hp : 2 ^ s < 65536 := by
    have : 2 ^ s < 2 ^ 16 := Nat.pow_lt_pow_right (by omega) hs
    omega
  have l1 : A &&& (65535 - 2 ^ s) < 2 ^ 16 := Nat.lt_of_le_of_lt Nat.and_le_left hA
  have l2 : B &&& 2 ^ s < 2 ^ 16 := Nat.lt_of_le_of_lt Nat.and_le_left hB
  have l3 : (A &&& (65535 - 2 ^ s)) ||| (B &&& 2 ^ s) < 2 ^ 16 := Nat.or_lt_two_pow l1 l2
  rw [u16_andNot_nat _ _ hA hp, u16_and_nat _ _ hB hp, u16_or_nat _ _ l1 l2, Nat.min_eq_left (by omega)]
  have fd : ∀ x : Nat, Int.fdiv (x : Int) (2 ^ s) = ((x / 2 ^ s : Nat) : Int) := fun x => by
    rw [show (2 : Int) ^ s = ((2 ^ s : Nat) : Int) by rw [Int.natCast_pow]; rfl, Int.fdiv_eq_ediv_of_nonneg _ (Int.natCast_nonneg _)]
    rfl
  have a1 : ∀ x : Nat, x < 65536 → bits .and .u16 (x : Int) 1 = ((x % 2 : Nat) : Int) := fun x hx => (u16_and_nat x 1 hx (by omega)).trans (by rw [nat_mask1])
  rw [fd, fd, a1 _ (Nat.lt_of_le_of_lt (Nat.div_le_self _ _) l3), a1 _ (Nat.lt_of_le_of_lt (Nat.div_le_self _ _) hB)]
  congr 1
  have hz : (65535 - 2 ^ s).testBit s = false := by
    have : ∀ s, s < 16 → (65535 - 2 ^ s).testBit s = false := by decide
    exact this s hs
  have ht : ((A &&& (65535 - 2 ^ s)) ||| (B &&& 2 ^ s)).testBit s = B.testBit s := by
    rw [Nat.testBit_or, Nat.testBit_and, Nat.testBit_and, hz, Nat.testBit_two_pow_self]
    simp
  rw [Nat.testBit_eq_decide_div_mod_eq, Nat.testBit_eq_decide_div_mod_eq] at ht
  have := decide_eq_decide.1 ht
  omega
/-- The bit of a register's key. -/
theorem bit_val {x : Int} (h : 0 ≤ x ∧ x ≤ 255) : IntKind.u16.wrap (1 * 2 ^ min (x.tmod 16).toNat 16) = ((2 ^ (x % 16).toNat : Nat) : Int) := by
  have e : (x.tmod 16) = x % 16 := Int.tmod_eq_emod_of_nonneg h.1
  have hs : (x % 16).toNat < 16 := by omega
  rw [e, Int.one_mul, Nat.min_eq_left (by omega), show (2 : Int) ^ (x % 16).toNat = ((2 ^ (x % 16).toNat : Nat) : Int) by rw [Int.natCast_pow]; rfl, IntKind.wrap_u16]
  have hz : 2 ^ (x % 16).toNat < 2 ^ 16 := Nat.pow_lt_pow_right (by omega) hs
  generalize 2 ^ (x % 16).toNat = z at hz ⊢
  omega
theorem down_same {g : GM} {o : Ord} {d e : Feed} (hg : OkG g) (hd : OkD d) (he : OkD e) (w : Feed) (hw : w.keys = bits .or .u16 (bits .andNot .u16 e.keys (IntKind.u16.wrap (1 * 2 ^ min ((g.V.getD o.x 0).tmod 16).toNat 16))) (bits .and .u16 d.keys (IntKind.u16.wrap (1 * 2 ^ min ((g.V.getD o.x 0).tmod 16).toNat 16)))) : downG g o w = downG g o d := by
  have hx := byte_at hg.Vb o.x
  have hs : (g.V.getD o.x 0 % 16).toNat < 16 := by omega
  have k1 := hd.keys
  have k2 := he.keys
  unfold downG
  rw [hw, bit_val hx]
  have := keys_same (A := e.keys.toNat) (B := d.keys.toNat) (s := (g.V.getD o.x 0 % 16).toNat) (by omega) (by omega) hs
  rw [Int.toNat_of_nonneg k2.1, Int.toNat_of_nonneg k1.1] at this
  rw [this]
end Go.Proofs.Ytgioegdjeodpiaa
set_option linter.unusedVariables false
set_option linter.unusedSimpArgs false
namespace Go.Proofs.Ytgioegdjeodpiaa
open Go.RowKit Go.SX
open Go.SX renaming ia_someH → Φa

def hcells (d e : Feed) (f : Fnt) (fv : Value) : List Value := d.cells ++ (e.cells ++ f.cells fv)

theorem gV {g : GM} {sv pv mv : Value} {x : Nat} (h : x < 16) : (g.cells sv pv mv)[x]? = some (.int .u8 (g.V.getD x 0)) := by
  match x, h with
  | 0, _ | 1, _ | 2, _ | 3, _ | 4, _ | 5, _ | 6, _ | 7, _ | 8, _ | 9, _ | 10, _ | 11, _ | 12, _ | 13, _ | 14, _ | 15, _ => rfl
  | n + 16, h => omega
theorem bits16 (op : BinOp) (a b : Int) : 0 ≤ bits op .u16 a b ∧ bits op .u16 a b ≤ 65535 := bits_within op .u16 a b
set_option maxHeartbeats 4000000 in
set_option maxRecDepth 100000 in
theorem GameHangs_spec {Γ : Ctx} (hP : Γ.P = Try.prog) {L : Hp} {g : GM} {sv pv mv : Value} {d e : Feed} {f2 : Fnt} {fv2 : Value} (hd : OkD d) (he : OkD e) (kd : -9223372036854775808 ≤ d.key ∧ d.key ≤ 9223372036854775807) (ke : -9223372036854775808 ≤ e.key ∧ e.key ≤ 9223372036854775807) (hF2 : OkF f2) (hf2 : SlI .u8 (Cell Γ []) fv2 f2.bs) {f : Fnt} {fv : Value} (hg : OkG g) (hF : OkF f) (hs : SlI .u16 (Cell Γ []) sv g.st) (hp : SlI .u8 (Cell Γ []) pv g.pg) (hm : SlI .u8 (Cell Γ []) mv g.mm) (hf : SlI .u8 (Cell Γ []) fv f.bs) :
    SCall Γ 6 #[(.agg (g.cells sv pv mv).toArray), (.agg (f.cells fv).toArray), (.agg (hcells d e f2 fv2).toArray)] L (fun v L' => v = .bool true ∧ L' = L) := by
  obtain ⟨As, cs, rfl, hcs⟩ := slShape hs
  obtain ⟨Ap, cp, rfl, hcp⟩ := slShape hp
  obtain ⟨Am, cm, rfl, hcm⟩ := slShape hm
  obtain ⟨Af, cf, rfl, hcf⟩ := slShape hf
  obtain ⟨Bf, ef, rfl, hcef⟩ := slShape hf2
  refine SCall.enter (n := 141) (res1 6) (hP ▸ Try.func6) rfl rfl (by simp) (res1_ok rfl) ?_
  refine SX.seq_k fun K1 hK1 => ?_
  refine SX.region_d [some 3, some 4, some 5, some 6] rfl (fun ops hops => ?_)
  unfold Dsts at hops
  simp (maxSteps:=1000000)(dsimp:=false)(disch:=omega) only [go_sem, Φa, hP, hops]
  intro b0
  try with_reducible refine stI ?_
  try simp (maxSteps:=1000000)(dsimp:=false)(disch:=omega) only [go_sem, Φa, hP, hops]
  intro b1
  try with_reducible refine stI ?_
  try simp (maxSteps:=1000000)(dsimp:=false)(disch:=omega) only [go_sem, Φa, hP, hops]
  intro b2
  try with_reducible refine stI ?_
  try simp (maxSteps:=1000000)(dsimp:=false)(disch:=omega) only [go_sem, Φa, hP, hops]
  refine hK1 _ _ ?_
  try clear hK1 K1
  refine SX.seq_k fun K2 hK2 => ?_
  refine SX.region_d [some 22, some 7] rfl (fun ops hops => ?_)
  unfold Dsts at hops
  simp (maxSteps:=1000000)(dsimp:=false)(disch:=omega) only [go_sem, Φa, hP, hops]
  first | (refine SCall.mono (awake_spec hP) ?_; rintro v_ L_ ⟨hv_, hL_⟩; rw [hv_, hL_]; clear hv_ hL_ v_ L_) | refine ⟨_, awake_spec hP, ?_⟩ | refine ⟨_, fun L0 hl0 => awake_spec hP, ?_⟩
  try with_reducible refine stI ?_
  try simp (maxSteps:=1000000)(dsimp:=false)(disch:=omega) only [go_sem, Φa, hP, hops]
  refine hK2 _ _ ?_
  try clear hK2 K2
  refine SX.seq_k fun K3 hK3 => ?_
  refine SX.seq_k fun K4 hK4 => ?_
  refine SX.region_xd [some 23, some 24, some 25, some 26, some 27, some 28, some 29, some 30, some 31, some 32] rfl (fun ops hops => ?_)
  unfold Dsts at hops
  refine RX.live [3, 4, 5, 7] (fun T1 hT1 => ?_)
  simp only [forall_mem_cons', forall_mem_nil', go_sem, Φa, hP] at hT1
  obtain ⟨h1_3, h1_4, h1_5, h1_7⟩ := hT1
  refine RX.join 10 (fun (ss : Unit) T L' => T 32 = .bool (vastB g f || decide ((2147483647 : Int) < (f2.bs.length : Int))) ∧ T 3 = T1 3 ∧ T 4 = T1 4 ∧ T 5 = T1 5 ∧ T 7 = T1 7 ∧ L' = some (b2, .cells (hcells d e f2 (.slice Bf f2.bs.length ef)).toArray 52 (0, 0)) :: some (b1, .cells (f.cells (.slice Af f.bs.length cf)).toArray 40 (0, 0)) :: some (b0, .cells (g.cells (.slice As g.st.length cs) (.slice Ap g.pg.length cp) (.slice Am g.mm.length cm)).toArray 29 (0, 0)) :: L ∧ (True)) (fun K5 hK5 => ?_) ?_
  · simp only [h1_3, h1_4, h1_5, h1_7] at hK5
    simp (maxSteps:=1000000)(dsimp:=false)(disch:=omega) only [go_sem, Φa, hP, h1_3, h1_4, h1_5, h1_7, hops]
    repeat' (first | refine iteB (fun hg => ?_) (fun hg => ?_) | refine iteI (fun hg => ?_) (fun hg => ?_) | ((first | (refine SCall.mono (vast_spec (g := g) (f := f) hP (SlI.any hs) (SlI.any hp) (SlI.any hm) (SlI.any hf)) ?_; rintro v_ L_ ⟨hv_, hL_⟩; rw [hv_, hL_]; clear hv_ hL_ v_ L_) | refine ⟨_, Cell.at 0 rfl (show (hcells _ _ _ _)[23]? = some (.slice Bf f2.bs.length ef) from rfl), ?_⟩ | refine And.intro (by omega) ?_ | refine ⟨_, Cell.at 0 rfl rfl, _, Cell.at 0 rfl rfl, _, Cell.at 0 rfl rfl, _, Cell.at 0 rfl rfl, _, Cell.at 0 rfl rfl, _, Cell.at 0 rfl rfl, _, Cell.at 0 rfl rfl, _, Cell.at 0 rfl rfl, _, Cell.at 0 rfl rfl, _, Cell.at 0 rfl rfl, _, Cell.at 0 rfl rfl, _, Cell.at 0 rfl rfl, _, Cell.at 0 rfl rfl, _, Cell.at 0 rfl rfl, _, Cell.at 0 rfl rfl, _, Cell.at 0 rfl rfl, _, Cell.at 0 rfl rfl, _, Cell.at 0 rfl rfl, _, Cell.at 0 rfl rfl, _, Cell.at 0 rfl rfl, _, Cell.at 0 rfl rfl, _, Cell.at 0 rfl rfl, _, Cell.at 0 rfl rfl, ?_⟩ | refine ⟨_, Cell.at 1 rfl rfl, _, Cell.at 1 rfl rfl, _, Cell.at 1 rfl rfl, _, Cell.at 1 rfl rfl, _, Cell.at 1 rfl rfl, _, Cell.at 1 rfl rfl, _, Cell.at 1 rfl rfl, _, Cell.at 1 rfl rfl, _, Cell.at 1 rfl rfl, _, Cell.at 1 rfl rfl, _, Cell.at 1 rfl rfl, _, Cell.at 1 rfl rfl, _, Cell.at 1 rfl rfl, _, Cell.at 1 rfl rfl, _, Cell.at 1 rfl rfl, _, Cell.at 1 rfl rfl, _, Cell.at 1 rfl rfl, _, Cell.at 1 rfl rfl, _, Cell.at 1 rfl rfl, _, Cell.at 1 rfl rfl, _, Cell.at 1 rfl rfl, _, Cell.at 1 rfl rfl, _, Cell.at 1 rfl rfl, ?_⟩ | refine ⟨_, Cell.at 2 rfl rfl, _, Cell.at 2 rfl rfl, _, Cell.at 2 rfl rfl, _, Cell.at 2 rfl rfl, _, Cell.at 2 rfl rfl, _, Cell.at 2 rfl rfl, _, Cell.at 2 rfl rfl, _, Cell.at 2 rfl rfl, _, Cell.at 2 rfl rfl, _, Cell.at 2 rfl rfl, _, Cell.at 2 rfl rfl, _, Cell.at 2 rfl rfl, _, Cell.at 2 rfl rfl, _, Cell.at 2 rfl rfl, _, Cell.at 2 rfl rfl, _, Cell.at 2 rfl rfl, _, Cell.at 2 rfl rfl, _, Cell.at 2 rfl rfl, _, Cell.at 2 rfl rfl, _, Cell.at 2 rfl rfl, _, Cell.at 2 rfl rfl, _, Cell.at 2 rfl rfl, _, Cell.at 2 rfl rfl, ?_⟩ | refine ⟨_, Cell.at 0 rfl rfl, _, Cell.at 0 rfl rfl, _, Cell.at 0 rfl rfl, _, Cell.at 0 rfl rfl, _, Cell.at 0 rfl rfl, _, Cell.at 0 rfl rfl, _, Cell.at 0 rfl rfl, _, Cell.at 0 rfl rfl, _, Cell.at 0 rfl rfl, _, Cell.at 0 rfl rfl, _, Cell.at 0 rfl rfl, _, Cell.at 0 rfl rfl, _, Cell.at 0 rfl rfl, _, Cell.at 0 rfl rfl, _, Cell.at 0 rfl rfl, _, Cell.at 0 rfl rfl, _, Cell.at 0 rfl rfl, _, Cell.at 0 rfl rfl, ?_⟩ | refine ⟨_, Cell.at 1 rfl rfl, _, Cell.at 1 rfl rfl, _, Cell.at 1 rfl rfl, _, Cell.at 1 rfl rfl, _, Cell.at 1 rfl rfl, _, Cell.at 1 rfl rfl, _, Cell.at 1 rfl rfl, _, Cell.at 1 rfl rfl, _, Cell.at 1 rfl rfl, _, Cell.at 1 rfl rfl, _, Cell.at 1 rfl rfl, _, Cell.at 1 rfl rfl, _, Cell.at 1 rfl rfl, _, Cell.at 1 rfl rfl, _, Cell.at 1 rfl rfl, _, Cell.at 1 rfl rfl, _, Cell.at 1 rfl rfl, _, Cell.at 1 rfl rfl, ?_⟩ | refine ⟨_, Cell.at 2 rfl rfl, _, Cell.at 2 rfl rfl, _, Cell.at 2 rfl rfl, _, Cell.at 2 rfl rfl, _, Cell.at 2 rfl rfl, _, Cell.at 2 rfl rfl, _, Cell.at 2 rfl rfl, _, Cell.at 2 rfl rfl, _, Cell.at 2 rfl rfl, _, Cell.at 2 rfl rfl, _, Cell.at 2 rfl rfl, _, Cell.at 2 rfl rfl, _, Cell.at 2 rfl rfl, _, Cell.at 2 rfl rfl, _, Cell.at 2 rfl rfl, _, Cell.at 2 rfl rfl, _, Cell.at 2 rfl rfl, _, Cell.at 2 rfl rfl, ?_⟩ | refine ⟨_, Cell.at 0 rfl rfl, ?_⟩ | refine ⟨_, Cell.at 1 rfl rfl, ?_⟩ | refine ⟨_, Cell.at 2 rfl rfl, ?_⟩ | fail); try (with_reducible refine stI ?_); try simp (maxSteps:=1000000)(dsimp:=false)(disch:=omega) only [go_sem, Φa, hP, h1_3, h1_4, h1_5, h1_7, hops]) | fail)
    all_goals
      refine hK5 () _ (some (b2, .cells (hcells d e f2 (.slice Bf f2.bs.length ef)).toArray 52 (0, 0)) :: some (b1, .cells (f.cells (.slice Af f.bs.length cf)).toArray 40 (0, 0)) :: some (b0, .cells (g.cells (.slice As g.st.length cs) (.slice Ap g.pg.length cp) (.slice Am g.mm.length cm)).toArray 29 (0, 0)) :: L) _ (by first | exact Less.refl _ | exact Less.drop _ _ | exact Less.drops (Less.drop _ _) | exact Less.drops (Less.drops (Less.drop _ _)) | exact Less.drops (Less.drops (Less.drops (Less.drop _ _))) | exact Less.drops (Less.drops (Less.drops (Less.drops (Less.drop _ _))))) ?_
      try dsimp only
      refine ⟨?_, ?_, ?_, ?_, ?_, ?_, ?_⟩
      · simp (maxSteps:=1000000)(dsimp:=false)(disch:=omega) only [go_sem, Φa, hP, h1_3, h1_4, h1_5, h1_7]
        first | done | (refine congrArg Value.bool ?_; simp_all; done)
      · simp (maxSteps:=1000000)(dsimp:=false)(disch:=omega) only [go_sem, Φa, hP, h1_3, h1_4, h1_5, h1_7]
      · simp (maxSteps:=1000000)(dsimp:=false)(disch:=omega) only [go_sem, Φa, hP, h1_3, h1_4, h1_5, h1_7]
      · simp (maxSteps:=1000000)(dsimp:=false)(disch:=omega) only [go_sem, Φa, hP, h1_3, h1_4, h1_5, h1_7]
      · simp (maxSteps:=1000000)(dsimp:=false)(disch:=omega) only [go_sem, Φa, hP, h1_3, h1_4, h1_5, h1_7]
      · rfl
      · trivial
  · intro ss T2 L2 hI
    simp only [h1_3, h1_4, h1_5, h1_7] at hI 
    obtain ⟨h2_32, h2_3, h2_4, h2_5, h2_7, hL2, hinv⟩ := hI
    replace hL2 := hL2.symm
    subst hL2
    clear h1_3 h1_4 h1_5 h1_7 T1
    refine RX.done ?_
    simp (maxSteps:=1000000)(dsimp:=false)(disch:=omega) only [go_sem, Φa, hP, h2_32, h2_3, h2_4, h2_5, h2_7, hops]
    refine hK4 _ _ ?_
    try clear hK4 K4
    refine SX.cond_k fun X6 Y6 hX6 hY6 => ?_
    simp (maxSteps:=1000000)(dsimp:=false)(disch:=omega) only [go_sem, Φa, hP, h2_32, h2_3, h2_4, h2_5, h2_7, condVC]
    refine ⟨fun hc32 => hX6 ?_, fun hc32 => hY6 ?_⟩
    · clear hX6 hY6 X6 Y6
      refine SX.seq_k fun K7 hK7 => ?_
      refine SX.region_d [some 6] rfl (fun ops hops => ?_)
      unfold Dsts at hops
      simp (maxSteps:=1000000)(dsimp:=false)(disch:=omega) only [go_sem, Φa, hP, h2_32, h2_3, h2_4, h2_5, h2_7, hops]
      refine hK7 _ _ ?_
      try clear hK7 K7
      refine SX.ret ?_
      simp only [andThen_normal, andThen_ret, andThen_exit, inBlk_normal, inBlk_ret, inBlk_exit, Nat.reduceEqDiff, if_true, if_false, ↓reduceIte, retQ_ret]
      try simp only [res0, res1, res2, res3, stK_e, go_sem, Φa, hP, h2_32, h2_3, h2_4, h2_5, h2_7]
      exact ⟨_, _, Less.tail [_, _, _] _, rfl, rfl, rfl⟩
    · clear hX6 hY6 X6 Y6
      refine SX.skip ?_
      try simp only [andThen_normal, andThen_ret, andThen_exit, inBlk_normal, inBlk_ret, inBlk_exit, Nat.reduceEqDiff, if_true, if_false, ↓reduceIte]
      refine hK3 _ _ ?_
      try clear hK3 K3
      refine SX.seq_k fun K8 hK8 => ?_
      have hv0 : vastB g f = false ∧ f2.bs.length ≤ 2147483647 := by
        simp only [Bool.or_eq_false_iff, decide_eq_false_iff_not, Bool.not_eq_true] at hc32
        exact ⟨hc32.1, by omega⟩
      obtain ⟨hs1, hs2, hs3, hs4⟩ := vast_no hv0.1
      have hs5 := hv0.2
      refine SX.region_d [some 33, some 34, some 8, none] rfl (fun ops hops => ?_)
      unfold Dsts at hops
      simp (maxSteps:=1000000)(dsimp:=false)(disch:=omega) only [go_sem, Φa, hP, h2_32, h2_3, h2_4, h2_5, h2_7, hops]
      refine ⟨_, Cell.at 0 rfl (show (hcells _ _ _ _)[0]? = _ from rfl), ?_⟩
      try with_reducible refine stI ?_
      try simp (maxSteps:=1000000)(dsimp:=false)(disch:=omega) only [go_sem, Φa, hP, h2_32, h2_3, h2_4, h2_5, h2_7, hops]
      refine ⟨_, Cell.at 0 rfl (show (hcells _ _ _ _)[1]? = _ from rfl), ?_⟩
      try with_reducible refine stI ?_
      try simp (maxSteps:=1000000)(dsimp:=false)(disch:=omega) only [go_sem, Φa, hP, h2_32, h2_3, h2_4, h2_5, h2_7, hops]
      refine ⟨_, Cell.at 0 rfl (show (hcells _ _ _ _)[2]? = _ from rfl), ?_⟩
      try with_reducible refine stI ?_
      try simp (maxSteps:=1000000)(dsimp:=false)(disch:=omega) only [go_sem, Φa, hP, h2_32, h2_3, h2_4, h2_5, h2_7, hops]
      intro b8
      try with_reducible refine stI ?_
      try simp (maxSteps:=1000000)(dsimp:=false)(disch:=omega) only [go_sem, Φa, hP, h2_32, h2_3, h2_4, h2_5, h2_7, hops]
      refine ⟨0, _, _, _, rfl, by decide, .inr (by decide), ?_⟩
      try with_reducible refine stI ?_
      try simp (maxSteps:=1000000)(dsimp:=false)(disch:=omega) only [go_sem, Φa, hP, h2_32, h2_3, h2_4, h2_5, h2_7, hops]
      refine hK8 _ _ ?_
      try clear hK8 K8
      refine SX.seq_k fun K9 hK9 => ?_
      refine SX.region_d [some 35, some 36, some 9, none] rfl (fun ops hops => ?_)
      unfold Dsts at hops
      simp (maxSteps:=1000000)(dsimp:=false)(disch:=omega) only [go_sem, Φa, hP, h2_32, h2_3, h2_4, h2_5, h2_7, hops]
      refine ⟨_, Cell.at 1 rfl (show (hcells _ _ _ _)[3]? = _ from rfl), ?_⟩
      try with_reducible refine stI ?_
      try simp (maxSteps:=1000000)(dsimp:=false)(disch:=omega) only [go_sem, Φa, hP, h2_32, h2_3, h2_4, h2_5, h2_7, hops]
      refine ⟨_, Cell.at 1 rfl (show (hcells _ _ _ _)[4]? = _ from rfl), ?_⟩
      try with_reducible refine stI ?_
      try simp (maxSteps:=1000000)(dsimp:=false)(disch:=omega) only [go_sem, Φa, hP, h2_32, h2_3, h2_4, h2_5, h2_7, hops]
      refine ⟨_, Cell.at 1 rfl (show (hcells _ _ _ _)[5]? = _ from rfl), ?_⟩
      try with_reducible refine stI ?_
      try simp (maxSteps:=1000000)(dsimp:=false)(disch:=omega) only [go_sem, Φa, hP, h2_32, h2_3, h2_4, h2_5, h2_7, hops]
      intro b9
      try with_reducible refine stI ?_
      try simp (maxSteps:=1000000)(dsimp:=false)(disch:=omega) only [go_sem, Φa, hP, h2_32, h2_3, h2_4, h2_5, h2_7, hops]
      refine ⟨0, _, _, _, rfl, by decide, .inr (by decide), ?_⟩
      try with_reducible refine stI ?_
      try simp (maxSteps:=1000000)(dsimp:=false)(disch:=omega) only [go_sem, Φa, hP, h2_32, h2_3, h2_4, h2_5, h2_7, hops]
      refine hK9 _ _ ?_
      try clear hK9 K9
      refine SX.seq_k fun K10 hK10 => ?_
      refine SX.region_d [some 38, some 39, some 37, some 40, some 41, some 10, none, some 11] rfl (fun ops hops => ?_)
      unfold Dsts at hops
      simp (maxSteps:=1000000)(dsimp:=false)(disch:=omega) only [go_sem, Φa, hP, h2_32, h2_3, h2_4, h2_5, h2_7, hops]
      refine ⟨_, Cell.at 4 rfl rfl, ?_⟩
      try with_reducible refine stI ?_
      try simp (maxSteps:=1000000)(dsimp:=false)(disch:=omega) only [go_sem, Φa, hP, h2_32, h2_3, h2_4, h2_5, h2_7, hops]
      refine ⟨_, Cell.at 4 rfl rfl, ?_⟩
      try with_reducible refine stI ?_
      try simp (maxSteps:=1000000)(dsimp:=false)(disch:=omega) only [go_sem, Φa, hP, h2_32, h2_3, h2_4, h2_5, h2_7, hops]
      refine ⟨_, Cell.at 4 rfl rfl, ?_⟩
      try with_reducible refine stI ?_
      try simp (maxSteps:=1000000)(dsimp:=false)(disch:=omega) only [go_sem, Φa, hP, h2_32, h2_3, h2_4, h2_5, h2_7, hops]
      refine ⟨_, Cell.at 4 rfl rfl, ?_⟩
      try with_reducible refine stI ?_
      try simp (maxSteps:=1000000)(dsimp:=false)(disch:=omega) only [go_sem, Φa, hP, h2_32, h2_3, h2_4, h2_5, h2_7, hops]
      refine ⟨_, Cell.at 4 rfl rfl, ?_⟩
      try with_reducible refine stI ?_
      try simp (maxSteps:=1000000)(dsimp:=false)(disch:=omega) only [go_sem, Φa, hP, h2_32, h2_3, h2_4, h2_5, h2_7, hops]
      refine ⟨_, Cell.at 4 rfl rfl, ?_⟩
      try with_reducible refine stI ?_
      try simp (maxSteps:=1000000)(dsimp:=false)(disch:=omega) only [go_sem, Φa, hP, h2_32, h2_3, h2_4, h2_5, h2_7, hops]
      refine ⟨_, Cell.at 4 rfl rfl, ?_⟩
      try with_reducible refine stI ?_
      try simp (maxSteps:=1000000)(dsimp:=false)(disch:=omega) only [go_sem, Φa, hP, h2_32, h2_3, h2_4, h2_5, h2_7, hops]
      refine ⟨_, Cell.at 4 rfl rfl, ?_⟩
      try with_reducible refine stI ?_
      try simp (maxSteps:=1000000)(dsimp:=false)(disch:=omega) only [go_sem, Φa, hP, h2_32, h2_3, h2_4, h2_5, h2_7, hops]
      refine ⟨_, Cell.at 4 rfl rfl, ?_⟩
      try with_reducible refine stI ?_
      try simp (maxSteps:=1000000)(dsimp:=false)(disch:=omega) only [go_sem, Φa, hP, h2_32, h2_3, h2_4, h2_5, h2_7, hops]
      refine ⟨_, Cell.at 4 rfl rfl, ?_⟩
      try with_reducible refine stI ?_
      try simp (maxSteps:=1000000)(dsimp:=false)(disch:=omega) only [go_sem, Φa, hP, h2_32, h2_3, h2_4, h2_5, h2_7, hops]
      refine ⟨_, Cell.at 4 rfl rfl, ?_⟩
      try with_reducible refine stI ?_
      try simp (maxSteps:=1000000)(dsimp:=false)(disch:=omega) only [go_sem, Φa, hP, h2_32, h2_3, h2_4, h2_5, h2_7, hops]
      refine ⟨_, Cell.at 4 rfl rfl, ?_⟩
      try with_reducible refine stI ?_
      try simp (maxSteps:=1000000)(dsimp:=false)(disch:=omega) only [go_sem, Φa, hP, h2_32, h2_3, h2_4, h2_5, h2_7, hops]
      refine ⟨_, Cell.at 4 rfl rfl, ?_⟩
      try with_reducible refine stI ?_
      try simp (maxSteps:=1000000)(dsimp:=false)(disch:=omega) only [go_sem, Φa, hP, h2_32, h2_3, h2_4, h2_5, h2_7, hops]
      refine ⟨_, Cell.at 4 rfl rfl, ?_⟩
      try with_reducible refine stI ?_
      try simp (maxSteps:=1000000)(dsimp:=false)(disch:=omega) only [go_sem, Φa, hP, h2_32, h2_3, h2_4, h2_5, h2_7, hops]
      refine ⟨_, Cell.at 4 rfl rfl, ?_⟩
      try with_reducible refine stI ?_
      try simp (maxSteps:=1000000)(dsimp:=false)(disch:=omega) only [go_sem, Φa, hP, h2_32, h2_3, h2_4, h2_5, h2_7, hops]
      refine ⟨_, Cell.at 4 rfl rfl, ?_⟩
      try with_reducible refine stI ?_
      try simp (maxSteps:=1000000)(dsimp:=false)(disch:=omega) only [go_sem, Φa, hP, h2_32, h2_3, h2_4, h2_5, h2_7, hops]
      refine ⟨_, Cell.at 4 rfl rfl, ?_⟩
      try with_reducible refine stI ?_
      try simp (maxSteps:=1000000)(dsimp:=false)(disch:=omega) only [go_sem, Φa, hP, h2_32, h2_3, h2_4, h2_5, h2_7, hops]
      refine ⟨_, Cell.at 4 rfl rfl, ?_⟩
      try with_reducible refine stI ?_
      try simp (maxSteps:=1000000)(dsimp:=false)(disch:=omega) only [go_sem, Φa, hP, h2_32, h2_3, h2_4, h2_5, h2_7, hops]
      refine ⟨_, Cell.at 4 rfl rfl, ?_⟩
      try with_reducible refine stI ?_
      try simp (maxSteps:=1000000)(dsimp:=false)(disch:=omega) only [go_sem, Φa, hP, h2_32, h2_3, h2_4, h2_5, h2_7, hops]
      refine ⟨_, Cell.at 4 rfl rfl, ?_⟩
      try with_reducible refine stI ?_
      try simp (maxSteps:=1000000)(dsimp:=false)(disch:=omega) only [go_sem, Φa, hP, h2_32, h2_3, h2_4, h2_5, h2_7, hops]
      refine ⟨_, Cell.at 4 rfl rfl, ?_⟩
      try with_reducible refine stI ?_
      try simp (maxSteps:=1000000)(dsimp:=false)(disch:=omega) only [go_sem, Φa, hP, h2_32, h2_3, h2_4, h2_5, h2_7, hops]
      refine ⟨_, Cell.at 4 rfl rfl, ?_⟩
      try with_reducible refine stI ?_
      try simp (maxSteps:=1000000)(dsimp:=false)(disch:=omega) only [go_sem, Φa, hP, h2_32, h2_3, h2_4, h2_5, h2_7, hops]
      refine ⟨_, Cell.at 4 rfl rfl, ?_⟩
      try with_reducible refine stI ?_
      try simp (maxSteps:=1000000)(dsimp:=false)(disch:=omega) only [go_sem, Φa, hP, h2_32, h2_3, h2_4, h2_5, h2_7, hops]
      first | (refine SCall.mono (Next_spec (g := g) hP hg (SlI.any hs) (SlI.any hp) (SlI.any hm) (by omega) (by omega) (by omega)) ?_; rintro v_ L_ ⟨hv_, hL_⟩; rw [hv_, hL_]; clear hv_ hL_ v_ L_) | refine ⟨_, Next_spec (g := g) hP hg (SlI.any hs) (SlI.any hp) (SlI.any hm) (by omega) (by omega) (by omega), ?_⟩ | refine ⟨_, fun L0 hl0 => Next_spec (g := g) hP hg (SlI.any hs) (SlI.any hp) (SlI.any hm) (by omega) (by omega) (by omega), ?_⟩
      unfold nextV Ord.cells
      try with_reducible refine stI ?_
      try simp (maxSteps:=1000000)(dsimp:=false)(disch:=omega) only [go_sem, Φa, hP, h2_32, h2_3, h2_4, h2_5, h2_7, hops]
      intro b10
      try with_reducible refine stI ?_
      try simp (maxSteps:=1000000)(dsimp:=false)(disch:=omega) only [go_sem, Φa, hP, h2_32, h2_3, h2_4, h2_5, h2_7, hops]
      refine ⟨0, _, _, _, rfl, by decide, .inr (by decide), ?_⟩
      try with_reducible refine stI ?_
      try simp (maxSteps:=1000000)(dsimp:=false)(disch:=omega) only [go_sem, Φa, hP, h2_32, h2_3, h2_4, h2_5, h2_7, hops]
      refine hK10 _ _ ?_
      try clear hK10 K10
      refine SX.live [3, 4, 5, 7, 8, 9, 10, 11] (fun T3 hT3 => ?_)
      simp only [forall_mem_cons', forall_mem_nil', go_sem, Φa, hP, h2_32, h2_3, h2_4, h2_5, h2_7] at hT3
      obtain ⟨h3_3, h3_4, h3_5, h3_7, h3_8, h3_9, h3_10, h3_11⟩ := hT3
      clear h2_32 h2_3 h2_4 h2_5 h2_7 T2
      refine SX.seq_k fun K11 hK11 => ?_
      refine SX.region_d [some 43, some 44, some 45, some 46, some 42, some 47, some 48, some 49, some 12, none, some 13, some 14] rfl (fun ops hops => ?_)
      unfold Dsts at hops
      simp (maxSteps:=1000000)(dsimp:=false)(disch:=omega) only [go_sem, Φa, hP, h3_3, h3_4, h3_5, h3_7, h3_8, h3_9, h3_10, h3_11, hops]
      refine ⟨_, Cell.at 5 rfl rfl, ?_⟩
      try with_reducible refine stI ?_
      try simp (maxSteps:=1000000)(dsimp:=false)(disch:=omega) only [go_sem, Φa, hP, h3_3, h3_4, h3_5, h3_7, h3_8, h3_9, h3_10, h3_11, hops]
      refine ⟨_, Cell.at 5 rfl rfl, ?_⟩
      try with_reducible refine stI ?_
      try simp (maxSteps:=1000000)(dsimp:=false)(disch:=omega) only [go_sem, Φa, hP, h3_3, h3_4, h3_5, h3_7, h3_8, h3_9, h3_10, h3_11, hops]
      refine ⟨_, Cell.at 5 rfl rfl, ?_⟩
      try with_reducible refine stI ?_
      try simp (maxSteps:=1000000)(dsimp:=false)(disch:=omega) only [go_sem, Φa, hP, h3_3, h3_4, h3_5, h3_7, h3_8, h3_9, h3_10, h3_11, hops]
      refine ⟨_, Cell.at 5 rfl rfl, ?_⟩
      try with_reducible refine stI ?_
      try simp (maxSteps:=1000000)(dsimp:=false)(disch:=omega) only [go_sem, Φa, hP, h3_3, h3_4, h3_5, h3_7, h3_8, h3_9, h3_10, h3_11, hops]
      refine ⟨_, Cell.at 5 rfl rfl, ?_⟩
      try with_reducible refine stI ?_
      try simp (maxSteps:=1000000)(dsimp:=false)(disch:=omega) only [go_sem, Φa, hP, h3_3, h3_4, h3_5, h3_7, h3_8, h3_9, h3_10, h3_11, hops]
      refine ⟨_, Cell.at 5 rfl rfl, ?_⟩
      try with_reducible refine stI ?_
      try simp (maxSteps:=1000000)(dsimp:=false)(disch:=omega) only [go_sem, Φa, hP, h3_3, h3_4, h3_5, h3_7, h3_8, h3_9, h3_10, h3_11, hops]
      refine ⟨_, Cell.at 5 rfl rfl, ?_⟩
      try with_reducible refine stI ?_
      try simp (maxSteps:=1000000)(dsimp:=false)(disch:=omega) only [go_sem, Φa, hP, h3_3, h3_4, h3_5, h3_7, h3_8, h3_9, h3_10, h3_11, hops]
      refine ⟨_, Cell.at 5 rfl rfl, ?_⟩
      try with_reducible refine stI ?_
      try simp (maxSteps:=1000000)(dsimp:=false)(disch:=omega) only [go_sem, Φa, hP, h3_3, h3_4, h3_5, h3_7, h3_8, h3_9, h3_10, h3_11, hops]
      refine ⟨_, Cell.at 5 rfl rfl, ?_⟩
      try with_reducible refine stI ?_
      try simp (maxSteps:=1000000)(dsimp:=false)(disch:=omega) only [go_sem, Φa, hP, h3_3, h3_4, h3_5, h3_7, h3_8, h3_9, h3_10, h3_11, hops]
      refine ⟨_, Cell.at 5 rfl rfl, ?_⟩
      try with_reducible refine stI ?_
      try simp (maxSteps:=1000000)(dsimp:=false)(disch:=omega) only [go_sem, Φa, hP, h3_3, h3_4, h3_5, h3_7, h3_8, h3_9, h3_10, h3_11, hops]
      refine ⟨_, Cell.at 5 rfl rfl, ?_⟩
      try with_reducible refine stI ?_
      try simp (maxSteps:=1000000)(dsimp:=false)(disch:=omega) only [go_sem, Φa, hP, h3_3, h3_4, h3_5, h3_7, h3_8, h3_9, h3_10, h3_11, hops]
      refine ⟨_, Cell.at 5 rfl rfl, ?_⟩
      try with_reducible refine stI ?_
      try simp (maxSteps:=1000000)(dsimp:=false)(disch:=omega) only [go_sem, Φa, hP, h3_3, h3_4, h3_5, h3_7, h3_8, h3_9, h3_10, h3_11, hops]
      refine ⟨_, Cell.at 5 rfl rfl, ?_⟩
      try with_reducible refine stI ?_
      try simp (maxSteps:=1000000)(dsimp:=false)(disch:=omega) only [go_sem, Φa, hP, h3_3, h3_4, h3_5, h3_7, h3_8, h3_9, h3_10, h3_11, hops]
      refine ⟨_, Cell.at 5 rfl rfl, ?_⟩
      try with_reducible refine stI ?_
      try simp (maxSteps:=1000000)(dsimp:=false)(disch:=omega) only [go_sem, Φa, hP, h3_3, h3_4, h3_5, h3_7, h3_8, h3_9, h3_10, h3_11, hops]
      refine ⟨_, Cell.at 5 rfl rfl, ?_⟩
      try with_reducible refine stI ?_
      try simp (maxSteps:=1000000)(dsimp:=false)(disch:=omega) only [go_sem, Φa, hP, h3_3, h3_4, h3_5, h3_7, h3_8, h3_9, h3_10, h3_11, hops]
      refine ⟨_, Cell.at 5 rfl rfl, ?_⟩
      try with_reducible refine stI ?_
      try simp (maxSteps:=1000000)(dsimp:=false)(disch:=omega) only [go_sem, Φa, hP, h3_3, h3_4, h3_5, h3_7, h3_8, h3_9, h3_10, h3_11, hops]
      refine ⟨_, Cell.at 5 rfl rfl, ?_⟩
      try with_reducible refine stI ?_
      try simp (maxSteps:=1000000)(dsimp:=false)(disch:=omega) only [go_sem, Φa, hP, h3_3, h3_4, h3_5, h3_7, h3_8, h3_9, h3_10, h3_11, hops]
      refine ⟨_, Cell.at 5 rfl rfl, ?_⟩
      try with_reducible refine stI ?_
      try simp (maxSteps:=1000000)(dsimp:=false)(disch:=omega) only [go_sem, Φa, hP, h3_3, h3_4, h3_5, h3_7, h3_8, h3_9, h3_10, h3_11, hops]
      refine ⟨_, Cell.at 5 rfl rfl, ?_⟩
      try with_reducible refine stI ?_
      try simp (maxSteps:=1000000)(dsimp:=false)(disch:=omega) only [go_sem, Φa, hP, h3_3, h3_4, h3_5, h3_7, h3_8, h3_9, h3_10, h3_11, hops]
      refine ⟨_, Cell.at 5 rfl rfl, ?_⟩
      try with_reducible refine stI ?_
      try simp (maxSteps:=1000000)(dsimp:=false)(disch:=omega) only [go_sem, Φa, hP, h3_3, h3_4, h3_5, h3_7, h3_8, h3_9, h3_10, h3_11, hops]
      refine ⟨_, Cell.at 5 rfl rfl, ?_⟩
      try with_reducible refine stI ?_
      try simp (maxSteps:=1000000)(dsimp:=false)(disch:=omega) only [go_sem, Φa, hP, h3_3, h3_4, h3_5, h3_7, h3_8, h3_9, h3_10, h3_11, hops]
      refine ⟨_, Cell.at 5 rfl rfl, ?_⟩
      try with_reducible refine stI ?_
      try simp (maxSteps:=1000000)(dsimp:=false)(disch:=omega) only [go_sem, Φa, hP, h3_3, h3_4, h3_5, h3_7, h3_8, h3_9, h3_10, h3_11, hops]
      refine ⟨_, Cell.at 5 rfl rfl, ?_⟩
      try with_reducible refine stI ?_
      try simp (maxSteps:=1000000)(dsimp:=false)(disch:=omega) only [go_sem, Φa, hP, h3_3, h3_4, h3_5, h3_7, h3_8, h3_9, h3_10, h3_11, hops]
      refine ⟨_, Cell.at 4 rfl rfl, ?_⟩
      try with_reducible refine stI ?_
      try simp (maxSteps:=1000000)(dsimp:=false)(disch:=omega) only [go_sem, Φa, hP, h3_3, h3_4, h3_5, h3_7, h3_8, h3_9, h3_10, h3_11, hops]
      refine ⟨_, Cell.at 4 rfl rfl, ?_⟩
      try with_reducible refine stI ?_
      try simp (maxSteps:=1000000)(dsimp:=false)(disch:=omega) only [go_sem, Φa, hP, h3_3, h3_4, h3_5, h3_7, h3_8, h3_9, h3_10, h3_11, hops]
      refine ⟨_, Cell.at 4 rfl rfl, ?_⟩
      try with_reducible refine stI ?_
      try simp (maxSteps:=1000000)(dsimp:=false)(disch:=omega) only [go_sem, Φa, hP, h3_3, h3_4, h3_5, h3_7, h3_8, h3_9, h3_10, h3_11, hops]
      refine ⟨_, Cell.at 4 rfl rfl, ?_⟩
      try with_reducible refine stI ?_
      try simp (maxSteps:=1000000)(dsimp:=false)(disch:=omega) only [go_sem, Φa, hP, h3_3, h3_4, h3_5, h3_7, h3_8, h3_9, h3_10, h3_11, hops]
      refine ⟨_, Cell.at 4 rfl rfl, ?_⟩
      try with_reducible refine stI ?_
      try simp (maxSteps:=1000000)(dsimp:=false)(disch:=omega) only [go_sem, Φa, hP, h3_3, h3_4, h3_5, h3_7, h3_8, h3_9, h3_10, h3_11, hops]
      refine ⟨_, Cell.at 4 rfl rfl, ?_⟩
      try with_reducible refine stI ?_
      try simp (maxSteps:=1000000)(dsimp:=false)(disch:=omega) only [go_sem, Φa, hP, h3_3, h3_4, h3_5, h3_7, h3_8, h3_9, h3_10, h3_11, hops]
      refine ⟨_, Cell.at 4 rfl rfl, ?_⟩
      try with_reducible refine stI ?_
      try simp (maxSteps:=1000000)(dsimp:=false)(disch:=omega) only [go_sem, Φa, hP, h3_3, h3_4, h3_5, h3_7, h3_8, h3_9, h3_10, h3_11, hops]
      refine ⟨_, Cell.at 4 rfl rfl, ?_⟩
      try with_reducible refine stI ?_
      try simp (maxSteps:=1000000)(dsimp:=false)(disch:=omega) only [go_sem, Φa, hP, h3_3, h3_4, h3_5, h3_7, h3_8, h3_9, h3_10, h3_11, hops]
      refine ⟨_, Cell.at 4 rfl rfl, ?_⟩
      try with_reducible refine stI ?_
      try simp (maxSteps:=1000000)(dsimp:=false)(disch:=omega) only [go_sem, Φa, hP, h3_3, h3_4, h3_5, h3_7, h3_8, h3_9, h3_10, h3_11, hops]
      refine ⟨_, Cell.at 4 rfl rfl, ?_⟩
      try with_reducible refine stI ?_
      try simp (maxSteps:=1000000)(dsimp:=false)(disch:=omega) only [go_sem, Φa, hP, h3_3, h3_4, h3_5, h3_7, h3_8, h3_9, h3_10, h3_11, hops]
      refine ⟨_, Cell.at 4 rfl rfl, ?_⟩
      try with_reducible refine stI ?_
      try simp (maxSteps:=1000000)(dsimp:=false)(disch:=omega) only [go_sem, Φa, hP, h3_3, h3_4, h3_5, h3_7, h3_8, h3_9, h3_10, h3_11, hops]
      refine ⟨_, Cell.at 4 rfl rfl, ?_⟩
      try with_reducible refine stI ?_
      try simp (maxSteps:=1000000)(dsimp:=false)(disch:=omega) only [go_sem, Φa, hP, h3_3, h3_4, h3_5, h3_7, h3_8, h3_9, h3_10, h3_11, hops]
      refine ⟨_, Cell.at 4 rfl rfl, ?_⟩
      try with_reducible refine stI ?_
      try simp (maxSteps:=1000000)(dsimp:=false)(disch:=omega) only [go_sem, Φa, hP, h3_3, h3_4, h3_5, h3_7, h3_8, h3_9, h3_10, h3_11, hops]
      refine ⟨_, Cell.at 4 rfl rfl, ?_⟩
      try with_reducible refine stI ?_
      try simp (maxSteps:=1000000)(dsimp:=false)(disch:=omega) only [go_sem, Φa, hP, h3_3, h3_4, h3_5, h3_7, h3_8, h3_9, h3_10, h3_11, hops]
      refine ⟨_, Cell.at 4 rfl rfl, ?_⟩
      try with_reducible refine stI ?_
      try simp (maxSteps:=1000000)(dsimp:=false)(disch:=omega) only [go_sem, Φa, hP, h3_3, h3_4, h3_5, h3_7, h3_8, h3_9, h3_10, h3_11, hops]
      refine ⟨_, Cell.at 4 rfl rfl, ?_⟩
      try with_reducible refine stI ?_
      try simp (maxSteps:=1000000)(dsimp:=false)(disch:=omega) only [go_sem, Φa, hP, h3_3, h3_4, h3_5, h3_7, h3_8, h3_9, h3_10, h3_11, hops]
      refine ⟨_, Cell.at 4 rfl rfl, ?_⟩
      try with_reducible refine stI ?_
      try simp (maxSteps:=1000000)(dsimp:=false)(disch:=omega) only [go_sem, Φa, hP, h3_3, h3_4, h3_5, h3_7, h3_8, h3_9, h3_10, h3_11, hops]
      refine ⟨_, Cell.at 4 rfl rfl, ?_⟩
      try with_reducible refine stI ?_
      try simp (maxSteps:=1000000)(dsimp:=false)(disch:=omega) only [go_sem, Φa, hP, h3_3, h3_4, h3_5, h3_7, h3_8, h3_9, h3_10, h3_11, hops]
      refine ⟨_, Cell.at 2 rfl rfl, ?_⟩
      try with_reducible refine stI ?_
      try simp (maxSteps:=1000000)(dsimp:=false)(disch:=omega) only [go_sem, Φa, hP, h3_3, h3_4, h3_5, h3_7, h3_8, h3_9, h3_10, h3_11, hops]
      refine ⟨_, Cell.at 2 rfl rfl, ?_⟩
      try with_reducible refine stI ?_
      try simp (maxSteps:=1000000)(dsimp:=false)(disch:=omega) only [go_sem, Φa, hP, h3_3, h3_4, h3_5, h3_7, h3_8, h3_9, h3_10, h3_11, hops]
      refine ⟨_, Cell.at 2 rfl rfl, ?_⟩
      try with_reducible refine stI ?_
      try simp (maxSteps:=1000000)(dsimp:=false)(disch:=omega) only [go_sem, Φa, hP, h3_3, h3_4, h3_5, h3_7, h3_8, h3_9, h3_10, h3_11, hops]
      refine SCall.mono (Step_spec (g := g) (f := f) (d := d) hP hg hF hd (SlI.any hs) (SlI.any hp) (SlI.any hm) (SlI.any hf) (by omega) (by omega) (by omega) (by omega)) ?_
      rintro v_ L_ ⟨sv0, pv0, mv0, n1, n2, n3, rfl, rfl, hr⟩
      obtain ⟨A0st, c0st, rfl, hc0st⟩ := rowShape hr.st
      obtain ⟨A0pg, c0pg, rfl, hc0pg⟩ := rowShape hr.pg
      obtain ⟨A0mm, c0mm, rfl, hc0mm⟩ := rowShape hr.mm
      unfold GM.cells
      try with_reducible refine stI ?_
      try simp (maxSteps:=1000000)(dsimp:=false)(disch:=omega) only [go_sem, Φa, hP, h3_3, h3_4, h3_5, h3_7, h3_8, h3_9, h3_10, h3_11, hops]
      intro b12
      try with_reducible refine stI ?_
      try simp (maxSteps:=1000000)(dsimp:=false)(disch:=omega) only [go_sem, Φa, hP, h3_3, h3_4, h3_5, h3_7, h3_8, h3_9, h3_10, h3_11, hops]
      refine ⟨0, _, _, _, rfl, by decide, .inr (by decide), ?_⟩
      try with_reducible refine stI ?_
      try simp (maxSteps:=1000000)(dsimp:=false)(disch:=omega) only [go_sem, Φa, hP, h3_3, h3_4, h3_5, h3_7, h3_8, h3_9, h3_10, h3_11, hops]
      refine hK11 _ _ ?_
      try clear hK11 K11
      refine SX.live [3, 4, 5, 7, 8, 9, 10, 11, 12, 13, 14] (fun T4 hT4 => ?_)
      simp only [forall_mem_cons', forall_mem_nil', go_sem, Φa, hP, h3_3, h3_4, h3_5, h3_7, h3_8, h3_9, h3_10, h3_11] at hT4
      obtain ⟨h4_3, h4_4, h4_5, h4_7, h4_8, h4_9, h4_10, h4_11, h4_12, h4_13, h4_14⟩ := hT4
      clear h3_3 h3_4 h3_5 h3_7 h3_8 h3_9 h3_10 h3_11 T3
      refine SX.seq_k fun K12 hK12 => ?_
      refine SX.seq_k fun K13 hK13 => ?_
      refine SX.region_xd [some 50, some 51, some 52, some 53, some 54, some 55] rfl (fun ops hops => ?_)
      unfold Dsts at hops
      refine RX.live [3, 4, 5, 7, 8, 9, 10, 11, 12, 13, 14] (fun T5 hT5 => ?_)
      simp only [forall_mem_cons', forall_mem_nil', go_sem, Φa, hP, h4_3, h4_4, h4_5, h4_7, h4_8, h4_9, h4_10, h4_11, h4_12, h4_13, h4_14] at hT5
      obtain ⟨h5_3, h5_4, h5_5, h5_7, h5_8, h5_9, h5_10, h5_11, h5_12, h5_13, h5_14⟩ := hT5
      clear h4_3 h4_4 h4_5 h4_7 h4_8 h4_9 h4_10 h4_11 h4_12 h4_13 h4_14 T4
      refine RX.join 6 (fun (ss : Unit) T L' => T 55 = .bool ((!decide ((stepG g f d).2.2 = 0)) || !decide ((nextG g).2 = 1)) ∧ T 3 = T5 3 ∧ T 4 = T5 4 ∧ T 5 = T5 5 ∧ T 7 = T5 7 ∧ T 8 = T5 8 ∧ T 9 = T5 9 ∧ T 10 = T5 10 ∧ T 12 = T5 12 ∧ T 13 = T5 13 ∧ L' = some (b12, .cells ((stepG g f d).1.cells (.slice A0st (stepG g f d).1.st.length c0st) (.slice A0pg (stepG g f d).1.pg.length c0pg) (.slice A0mm (stepG g f d).1.mm.length c0mm)).toArray 29 (0, 0)) :: n1 :: n2 :: n3 :: some (b10, .cells (nextG g).1.cells.toArray 45 (0, 0)) :: some (b9, .cells e.cells.toArray 50 (0, 0)) :: some (b8, .cells d.cells.toArray 50 (0, 0)) :: some (b2, .cells (hcells d e f2 (.slice Bf f2.bs.length ef)).toArray 52 (0, 0)) :: some (b1, .cells (f.cells (.slice Af f.bs.length cf)).toArray 40 (0, 0)) :: some (b0, .cells (g.cells (.slice As g.st.length cs) (.slice Ap g.pg.length cp) (.slice Am g.mm.length cm)).toArray 29 (0, 0)) :: L ∧ (True)) (fun K14 hK14 => ?_) ?_
      · simp only [h5_3, h5_4, h5_5, h5_7, h5_8, h5_9, h5_10, h5_12, h5_13] at hK14
        simp (maxSteps:=1000000)(dsimp:=false)(disch:=omega) only [go_sem, Φa, hP, h5_3, h5_4, h5_5, h5_7, h5_8, h5_9, h5_10, h5_11, h5_12, h5_13, h5_14, hops]
        repeat' (first | refine iteB (fun hg => ?_) (fun hg => ?_) | refine iteI (fun hg => ?_) (fun hg => ?_) | ((first | refine And.intro (by omega) ?_ | refine ⟨_, Cell.at 0 rfl rfl, ?_⟩ | refine ⟨_, Cell.at 1 rfl rfl, ?_⟩ | refine ⟨_, Cell.at 2 rfl rfl, ?_⟩ | refine ⟨_, Cell.at 3 rfl rfl, ?_⟩ | refine ⟨_, Cell.at 4 rfl rfl, ?_⟩ | refine ⟨_, Cell.at 5 rfl rfl, ?_⟩ | refine ⟨_, Cell.at 6 rfl rfl, ?_⟩ | refine ⟨_, Cell.at 7 rfl rfl, ?_⟩ | refine ⟨_, Cell.at 8 rfl rfl, ?_⟩ | refine ⟨_, Cell.at 9 rfl rfl, ?_⟩ | fail); try (with_reducible refine stI ?_); try simp (maxSteps:=1000000)(dsimp:=false)(disch:=omega) only [go_sem, Φa, hP, h5_3, h5_4, h5_5, h5_7, h5_8, h5_9, h5_10, h5_11, h5_12, h5_13, h5_14, hops]) | fail)
        all_goals
          refine hK14 () _ (some (b12, .cells ((stepG g f d).1.cells (.slice A0st (stepG g f d).1.st.length c0st) (.slice A0pg (stepG g f d).1.pg.length c0pg) (.slice A0mm (stepG g f d).1.mm.length c0mm)).toArray 29 (0, 0)) :: n1 :: n2 :: n3 :: some (b10, .cells (nextG g).1.cells.toArray 45 (0, 0)) :: some (b9, .cells e.cells.toArray 50 (0, 0)) :: some (b8, .cells d.cells.toArray 50 (0, 0)) :: some (b2, .cells (hcells d e f2 (.slice Bf f2.bs.length ef)).toArray 52 (0, 0)) :: some (b1, .cells (f.cells (.slice Af f.bs.length cf)).toArray 40 (0, 0)) :: some (b0, .cells (g.cells (.slice As g.st.length cs) (.slice Ap g.pg.length cp) (.slice Am g.mm.length cm)).toArray 29 (0, 0)) :: L) _ (by first | exact Less.refl _ | exact Less.drop _ _ | exact Less.drops (Less.drop _ _) | exact Less.drops (Less.drops (Less.drop _ _)) | exact Less.drops (Less.drops (Less.drops (Less.drop _ _))) | exact Less.drops (Less.drops (Less.drops (Less.drops (Less.drop _ _))))) ?_
          try dsimp only
          refine ⟨?_, ?_, ?_, ?_, ?_, ?_, ?_, ?_, ?_, ?_, ?_, ?_⟩
          · simp (maxSteps:=1000000)(dsimp:=false)(disch:=omega) only [go_sem, Φa, hP, h5_3, h5_4, h5_5, h5_7, h5_8, h5_9, h5_10, h5_11, h5_12, h5_13, h5_14]
            first | done | (refine congrArg Value.bool ?_; simp_all; done)
          · simp (maxSteps:=1000000)(dsimp:=false)(disch:=omega) only [go_sem, Φa, hP, h5_3, h5_4, h5_5, h5_7, h5_8, h5_9, h5_10, h5_11, h5_12, h5_13, h5_14]
          · simp (maxSteps:=1000000)(dsimp:=false)(disch:=omega) only [go_sem, Φa, hP, h5_3, h5_4, h5_5, h5_7, h5_8, h5_9, h5_10, h5_11, h5_12, h5_13, h5_14]
          · simp (maxSteps:=1000000)(dsimp:=false)(disch:=omega) only [go_sem, Φa, hP, h5_3, h5_4, h5_5, h5_7, h5_8, h5_9, h5_10, h5_11, h5_12, h5_13, h5_14]
          · simp (maxSteps:=1000000)(dsimp:=false)(disch:=omega) only [go_sem, Φa, hP, h5_3, h5_4, h5_5, h5_7, h5_8, h5_9, h5_10, h5_11, h5_12, h5_13, h5_14]
          · simp (maxSteps:=1000000)(dsimp:=false)(disch:=omega) only [go_sem, Φa, hP, h5_3, h5_4, h5_5, h5_7, h5_8, h5_9, h5_10, h5_11, h5_12, h5_13, h5_14]
          · simp (maxSteps:=1000000)(dsimp:=false)(disch:=omega) only [go_sem, Φa, hP, h5_3, h5_4, h5_5, h5_7, h5_8, h5_9, h5_10, h5_11, h5_12, h5_13, h5_14]
          · simp (maxSteps:=1000000)(dsimp:=false)(disch:=omega) only [go_sem, Φa, hP, h5_3, h5_4, h5_5, h5_7, h5_8, h5_9, h5_10, h5_11, h5_12, h5_13, h5_14]
          · simp (maxSteps:=1000000)(dsimp:=false)(disch:=omega) only [go_sem, Φa, hP, h5_3, h5_4, h5_5, h5_7, h5_8, h5_9, h5_10, h5_11, h5_12, h5_13, h5_14]
          · simp (maxSteps:=1000000)(dsimp:=false)(disch:=omega) only [go_sem, Φa, hP, h5_3, h5_4, h5_5, h5_7, h5_8, h5_9, h5_10, h5_11, h5_12, h5_13, h5_14]
          · rfl
          · trivial
      · intro ss T6 L6 hI
        simp only [h5_3, h5_4, h5_5, h5_7, h5_8, h5_9, h5_10, h5_12, h5_13] at hI 
        obtain ⟨h6_55, h6_3, h6_4, h6_5, h6_7, h6_8, h6_9, h6_10, h6_12, h6_13, hL6, hinv⟩ := hI
        replace hL6 := hL6.symm
        subst hL6
        clear h5_3 h5_4 h5_5 h5_7 h5_8 h5_9 h5_10 h5_11 h5_12 h5_13 h5_14 T5
        refine RX.done ?_
        simp (maxSteps:=1000000)(dsimp:=false)(disch:=omega) only [go_sem, Φa, hP, h6_55, h6_3, h6_4, h6_5, h6_7, h6_8, h6_9, h6_10, h6_12, h6_13, hops]
        refine hK13 _ _ ?_
        try clear hK13 K13
        refine SX.cond_k fun X15 Y15 hX15 hY15 => ?_
        simp (maxSteps:=1000000)(dsimp:=false)(disch:=omega) only [go_sem, Φa, hP, h6_55, h6_3, h6_4, h6_5, h6_7, h6_8, h6_9, h6_10, h6_12, h6_13, condVC]
        refine ⟨fun hc55 => hX15 ?_, fun hc55 => hY15 ?_⟩
        · clear hX15 hY15 X15 Y15
          refine SX.seq_k fun K16 hK16 => ?_
          refine SX.region_d [some 56, some 6] rfl (fun ops hops => ?_)
          unfold Dsts at hops
          simp (maxSteps:=1000000)(dsimp:=false)(disch:=omega) only [go_sem, Φa, hP, h6_55, h6_3, h6_4, h6_5, h6_7, h6_8, h6_9, h6_10, h6_12, h6_13, hops]
          refine hK16 _ _ ?_
          try clear hK16 K16
          refine SX.ret ?_
          simp only [andThen_normal, andThen_ret, andThen_exit, inBlk_normal, inBlk_ret, inBlk_exit, Nat.reduceEqDiff, if_true, if_false, ↓reduceIte, retQ_ret]
          try simp only [res0, res1, res2, res3, stK_e, go_sem, Φa, hP, h6_55, h6_3, h6_4, h6_5, h6_7, h6_8, h6_9, h6_10, h6_12, h6_13]
          exact ⟨_, _, Less.tail [_, _, _, _, _, _, _, _, _, _] _, rfl, rfl, rfl⟩
        · clear hX15 hY15 X15 Y15
          refine SX.skip ?_
          try simp only [andThen_normal, andThen_ret, andThen_exit, inBlk_normal, inBlk_ret, inBlk_exit, Nat.reduceEqDiff, if_true, if_false, ↓reduceIte]
          refine hK12 _ _ ?_
          try clear hK12 K12
          refine SX.seq_k fun K17 hK17 => ?_
          have hA : (stepG g f d).2.2 = 0 ∧ (nextG g).2 = 1 := by
            simp at hc55
            exact hc55
          obtain ⟨hA1, hA2⟩ := hA
          have hc0 : checkE g = 0 := by
            by_cases h : checkE g = 0
            · exact h
            · rw [stepG_bad h] at hA1
              exact absurd hA1 h
          have hfine := fine_of hg hc0
          have hdec := (nextG_dec hA2).1
          have hop2 := (nextG_dec hA2).2
          have hop3 := hdec.op2
          have hxx := hdec.x
          refine SX.region_d [some 57, some 15, none] rfl (fun ops hops => ?_)
          unfold Dsts at hops
          simp (maxSteps:=1000000)(dsimp:=false)(disch:=omega) only [go_sem, Φa, hP, h6_55, h6_3, h6_4, h6_5, h6_7, h6_8, h6_9, h6_10, h6_12, h6_13, hops]
          refine ⟨_, Cell.at 6 rfl rfl, ?_⟩
          try with_reducible refine stI ?_
          try simp (maxSteps:=1000000)(dsimp:=false)(disch:=omega) only [go_sem, Φa, hP, h6_55, h6_3, h6_4, h6_5, h6_7, h6_8, h6_9, h6_10, h6_12, h6_13, hops]
          refine ⟨_, Cell.at 6 rfl rfl, ?_⟩
          try with_reducible refine stI ?_
          try simp (maxSteps:=1000000)(dsimp:=false)(disch:=omega) only [go_sem, Φa, hP, h6_55, h6_3, h6_4, h6_5, h6_7, h6_8, h6_9, h6_10, h6_12, h6_13, hops]
          refine ⟨_, Cell.at 6 rfl rfl, ?_⟩
          try with_reducible refine stI ?_
          try simp (maxSteps:=1000000)(dsimp:=false)(disch:=omega) only [go_sem, Φa, hP, h6_55, h6_3, h6_4, h6_5, h6_7, h6_8, h6_9, h6_10, h6_12, h6_13, hops]
          intro b15
          try with_reducible refine stI ?_
          try simp (maxSteps:=1000000)(dsimp:=false)(disch:=omega) only [go_sem, Φa, hP, h6_55, h6_3, h6_4, h6_5, h6_7, h6_8, h6_9, h6_10, h6_12, h6_13, hops]
          refine ⟨0, _, _, _, rfl, by decide, .inr (by decide), ?_⟩
          try with_reducible refine stI ?_
          try simp (maxSteps:=1000000)(dsimp:=false)(disch:=omega) only [go_sem, Φa, hP, h6_55, h6_3, h6_4, h6_5, h6_7, h6_8, h6_9, h6_10, h6_12, h6_13, hops]
          refine hK17 _ _ ?_
          try clear hK17 K17
          refine SX.live [3, 4, 5, 7, 8, 9, 10, 12, 13, 15] (fun T7 hT7 => ?_)
          simp only [forall_mem_cons', forall_mem_nil', go_sem, Φa, hP, h6_55, h6_3, h6_4, h6_5, h6_7, h6_8, h6_9, h6_10, h6_12, h6_13] at hT7
          obtain ⟨h7_3, h7_4, h7_5, h7_7, h7_8, h7_9, h7_10, h7_12, h7_13, h7_15⟩ := hT7
          clear h6_55 h6_3 h6_4 h6_5 h6_7 h6_8 h6_9 h6_10 h6_12 h6_13 T6
          refine SX.join (fun (ss : (Feed)) T L' => (fun (w : Feed) => T 3 = T7 3 ∧ T 4 = T7 4 ∧ T 5 = T7 5 ∧ T 7 = T7 7 ∧ T 8 = T7 8 ∧ T 9 = T7 9 ∧ T 10 = T7 10 ∧ T 12 = T7 12 ∧ T 13 = T7 13 ∧ T 15 = T7 15 ∧ L' = some (b15, .cells w.cells.toArray 50 (0, 0)) :: some (b12, .cells ((stepG g f d).1.cells (.slice A0st (stepG g f d).1.st.length c0st) (.slice A0pg (stepG g f d).1.pg.length c0pg) (.slice A0mm (stepG g f d).1.mm.length c0mm)).toArray 29 (0, 0)) :: n1 :: n2 :: n3 :: some (b10, .cells (nextG g).1.cells.toArray 45 (0, 0)) :: some (b9, .cells e.cells.toArray 50 (0, 0)) :: some (b8, .cells d.cells.toArray 50 (0, 0)) :: some (b2, .cells (hcells d e f2 (.slice Bf f2.bs.length ef)).toArray 52 (0, 0)) :: some (b1, .cells (f.cells (.slice Af f.bs.length cf)).toArray 40 (0, 0)) :: some (b0, .cells (g.cells (.slice As g.st.length cs) (.slice Ap g.pg.length cp) (.slice Am g.mm.length cm)).toArray 29 (0, 0)) :: L ∧ (OkD w ∧ (-9223372036854775808 ≤ w.key ∧ w.key ≤ 9223372036854775807) ∧ ((nextG g).1.op = 19 → w.rnd = d.rnd) ∧ w.keys = d.keys ∧ w.key = d.key)) (ss)) (fun K18 hK18 => ?_) ?_
          · simp only [h7_3, h7_4, h7_5, h7_7, h7_8, h7_9, h7_10, h7_12, h7_13, h7_15] at hK18
            refine SX.seq_k fun K19 hK19 => ?_
            refine SX.region_d [some 58, some 59, some 60] rfl (fun ops hops => ?_)
            unfold Dsts at hops
            simp (maxSteps:=1000000)(dsimp:=false)(disch:=omega) only [go_sem, Φa, hP, h7_3, h7_4, h7_5, h7_7, h7_8, h7_9, h7_10, h7_12, h7_13, h7_15, hops]
            refine ⟨_, Cell.at 5 rfl (show (Ord.cells _)[0]? = some (.int .u8 ((nextG g).1.op : Int)) from rfl), ?_⟩
            try with_reducible refine stI ?_
            try simp (maxSteps:=1000000)(dsimp:=false)(disch:=omega) only [go_sem, Φa, hP, h7_3, h7_4, h7_5, h7_7, h7_8, h7_9, h7_10, h7_12, h7_13, h7_15, hops]
            refine hK19 _ _ ?_
            try clear hK19 K19
            refine SX.cond_k fun X20 Y20 hX20 hY20 => ?_
            simp (maxSteps:=1000000)(dsimp:=false)(disch:=omega) only [go_sem, Φa, hP, h7_3, h7_4, h7_5, h7_7, h7_8, h7_9, h7_10, h7_12, h7_13, h7_15, condVC]
            refine ⟨fun hc60 => hX20 ?_, fun hc60 => hY20 ?_⟩
            · clear hX20 hY20 X20 Y20
              refine SX.region_d [some 61, some 62, some 63, none] rfl (fun ops hops => ?_)
              unfold Dsts at hops
              simp (maxSteps:=1000000)(dsimp:=false)(disch:=omega) only [go_sem, Φa, hP, h7_3, h7_4, h7_5, h7_7, h7_8, h7_9, h7_10, h7_12, h7_13, h7_15, hops]
              refine ⟨_, Cell.at 6 rfl (show (Feed.cells _)[0]? = some (.int .u8 e.rnd) from rfl), ?_⟩
              try with_reducible refine stI ?_
              try simp (maxSteps:=1000000)(dsimp:=false)(disch:=omega) only [go_sem, Φa, hP, h7_3, h7_4, h7_5, h7_7, h7_8, h7_9, h7_10, h7_12, h7_13, h7_15, hops]
              refine ⟨0, _, _, _, rfl, (by simp [Feed.cells]), .inr (by decide), ?_⟩
              try with_reducible refine stI ?_
              try simp (maxSteps:=1000000)(dsimp:=false)(disch:=omega) only [go_sem, Φa, hP, h7_3, h7_4, h7_5, h7_7, h7_8, h7_9, h7_10, h7_12, h7_13, h7_15, hops]
              refine hK18 { d with rnd := e.rnd } _ (some (b15, .cells ({ d with rnd := e.rnd }).cells.toArray 50 (0, 0)) :: some (b12, .cells ((stepG g f d).1.cells (.slice A0st (stepG g f d).1.st.length c0st) (.slice A0pg (stepG g f d).1.pg.length c0pg) (.slice A0mm (stepG g f d).1.mm.length c0mm)).toArray 29 (0, 0)) :: n1 :: n2 :: n3 :: some (b10, .cells (nextG g).1.cells.toArray 45 (0, 0)) :: some (b9, .cells e.cells.toArray 50 (0, 0)) :: some (b8, .cells d.cells.toArray 50 (0, 0)) :: some (b2, .cells (hcells d e f2 (.slice Bf f2.bs.length ef)).toArray 52 (0, 0)) :: some (b1, .cells (f.cells (.slice Af f.bs.length cf)).toArray 40 (0, 0)) :: some (b0, .cells (g.cells (.slice As g.st.length cs) (.slice Ap g.pg.length cp) (.slice Am g.mm.length cm)).toArray 29 (0, 0)) :: L) _ (by first | exact Less.refl _ | exact Less.drop _ _ | exact Less.drops (Less.drop _ _) | exact Less.drops (Less.drops (Less.drop _ _)) | exact Less.drops (Less.drops (Less.drops (Less.drop _ _))) | exact Less.drops (Less.drops (Less.drops (Less.drops (Less.drop _ _))))) ?_
              try dsimp only
              refine ⟨?_, ?_, ?_, ?_, ?_, ?_, ?_, ?_, ?_, ?_, ?_, ?_⟩
              · simp (maxSteps:=1000000)(dsimp:=false)(disch:=omega) only [go_sem, Φa, hP, h7_3, h7_4, h7_5, h7_7, h7_8, h7_9, h7_10, h7_12, h7_13, h7_15]
              · simp (maxSteps:=1000000)(dsimp:=false)(disch:=omega) only [go_sem, Φa, hP, h7_3, h7_4, h7_5, h7_7, h7_8, h7_9, h7_10, h7_12, h7_13, h7_15]
              · simp (maxSteps:=1000000)(dsimp:=false)(disch:=omega) only [go_sem, Φa, hP, h7_3, h7_4, h7_5, h7_7, h7_8, h7_9, h7_10, h7_12, h7_13, h7_15]
              · simp (maxSteps:=1000000)(dsimp:=false)(disch:=omega) only [go_sem, Φa, hP, h7_3, h7_4, h7_5, h7_7, h7_8, h7_9, h7_10, h7_12, h7_13, h7_15]
              · simp (maxSteps:=1000000)(dsimp:=false)(disch:=omega) only [go_sem, Φa, hP, h7_3, h7_4, h7_5, h7_7, h7_8, h7_9, h7_10, h7_12, h7_13, h7_15]
              · simp (maxSteps:=1000000)(dsimp:=false)(disch:=omega) only [go_sem, Φa, hP, h7_3, h7_4, h7_5, h7_7, h7_8, h7_9, h7_10, h7_12, h7_13, h7_15]
              · simp (maxSteps:=1000000)(dsimp:=false)(disch:=omega) only [go_sem, Φa, hP, h7_3, h7_4, h7_5, h7_7, h7_8, h7_9, h7_10, h7_12, h7_13, h7_15]
              · simp (maxSteps:=1000000)(dsimp:=false)(disch:=omega) only [go_sem, Φa, hP, h7_3, h7_4, h7_5, h7_7, h7_8, h7_9, h7_10, h7_12, h7_13, h7_15]
              · simp (maxSteps:=1000000)(dsimp:=false)(disch:=omega) only [go_sem, Φa, hP, h7_3, h7_4, h7_5, h7_7, h7_8, h7_9, h7_10, h7_12, h7_13, h7_15]
              · simp (maxSteps:=1000000)(dsimp:=false)(disch:=omega) only [go_sem, Φa, hP, h7_3, h7_4, h7_5, h7_7, h7_8, h7_9, h7_10, h7_12, h7_13, h7_15]
              · rfl
              · exact ⟨⟨he.rnd, hd.keys⟩, kd, fun h => absurd h (by omega), rfl, rfl⟩
            · clear hX20 hY20 X20 Y20
              refine SX.skip ?_
              try simp only [andThen_normal, andThen_ret, andThen_exit, inBlk_normal, inBlk_ret, inBlk_exit, Nat.reduceEqDiff, if_true, if_false, ↓reduceIte]
              refine hK18 d _ (some (b15, .cells d.cells.toArray 50 (0, 0)) :: some (b12, .cells ((stepG g f d).1.cells (.slice A0st (stepG g f d).1.st.length c0st) (.slice A0pg (stepG g f d).1.pg.length c0pg) (.slice A0mm (stepG g f d).1.mm.length c0mm)).toArray 29 (0, 0)) :: n1 :: n2 :: n3 :: some (b10, .cells (nextG g).1.cells.toArray 45 (0, 0)) :: some (b9, .cells e.cells.toArray 50 (0, 0)) :: some (b8, .cells d.cells.toArray 50 (0, 0)) :: some (b2, .cells (hcells d e f2 (.slice Bf f2.bs.length ef)).toArray 52 (0, 0)) :: some (b1, .cells (f.cells (.slice Af f.bs.length cf)).toArray 40 (0, 0)) :: some (b0, .cells (g.cells (.slice As g.st.length cs) (.slice Ap g.pg.length cp) (.slice Am g.mm.length cm)).toArray 29 (0, 0)) :: L) _ (by first | exact Less.refl _ | exact Less.drop _ _ | exact Less.drops (Less.drop _ _) | exact Less.drops (Less.drops (Less.drop _ _)) | exact Less.drops (Less.drops (Less.drops (Less.drop _ _))) | exact Less.drops (Less.drops (Less.drops (Less.drops (Less.drop _ _))))) ?_
              try dsimp only
              refine ⟨?_, ?_, ?_, ?_, ?_, ?_, ?_, ?_, ?_, ?_, ?_, ?_⟩
              · simp (maxSteps:=1000000)(dsimp:=false)(disch:=omega) only [go_sem, Φa, hP, h7_3, h7_4, h7_5, h7_7, h7_8, h7_9, h7_10, h7_12, h7_13, h7_15]
              · simp (maxSteps:=1000000)(dsimp:=false)(disch:=omega) only [go_sem, Φa, hP, h7_3, h7_4, h7_5, h7_7, h7_8, h7_9, h7_10, h7_12, h7_13, h7_15]
              · simp (maxSteps:=1000000)(dsimp:=false)(disch:=omega) only [go_sem, Φa, hP, h7_3, h7_4, h7_5, h7_7, h7_8, h7_9, h7_10, h7_12, h7_13, h7_15]
              · simp (maxSteps:=1000000)(dsimp:=false)(disch:=omega) only [go_sem, Φa, hP, h7_3, h7_4, h7_5, h7_7, h7_8, h7_9, h7_10, h7_12, h7_13, h7_15]
              · simp (maxSteps:=1000000)(dsimp:=false)(disch:=omega) only [go_sem, Φa, hP, h7_3, h7_4, h7_5, h7_7, h7_8, h7_9, h7_10, h7_12, h7_13, h7_15]
              · simp (maxSteps:=1000000)(dsimp:=false)(disch:=omega) only [go_sem, Φa, hP, h7_3, h7_4, h7_5, h7_7, h7_8, h7_9, h7_10, h7_12, h7_13, h7_15]
              · simp (maxSteps:=1000000)(dsimp:=false)(disch:=omega) only [go_sem, Φa, hP, h7_3, h7_4, h7_5, h7_7, h7_8, h7_9, h7_10, h7_12, h7_13, h7_15]
              · simp (maxSteps:=1000000)(dsimp:=false)(disch:=omega) only [go_sem, Φa, hP, h7_3, h7_4, h7_5, h7_7, h7_8, h7_9, h7_10, h7_12, h7_13, h7_15]
              · simp (maxSteps:=1000000)(dsimp:=false)(disch:=omega) only [go_sem, Φa, hP, h7_3, h7_4, h7_5, h7_7, h7_8, h7_9, h7_10, h7_12, h7_13, h7_15]
              · simp (maxSteps:=1000000)(dsimp:=false)(disch:=omega) only [go_sem, Φa, hP, h7_3, h7_4, h7_5, h7_7, h7_8, h7_9, h7_10, h7_12, h7_13, h7_15]
              · rfl
              · exact ⟨hd, kd, fun h => rfl, rfl, rfl⟩
          · intro w T8 L8 hI
            try dsimp only at hI 
            simp only [h7_3, h7_4, h7_5, h7_7, h7_8, h7_9, h7_10, h7_12, h7_13, h7_15] at hI 
            obtain ⟨h8_3, h8_4, h8_5, h8_7, h8_8, h8_9, h8_10, h8_12, h8_13, h8_15, hL8, ⟨hw1, hwk, hw2, hw3, hw4⟩⟩ := hI
            replace hL8 := hL8.symm
            subst hL8
            clear h7_3 h7_4 h7_5 h7_7 h7_8 h7_9 h7_10 h7_12 h7_13 h7_15 T7
            refine SX.live [3, 4, 5, 7, 8, 9, 10, 12, 13, 15] (fun T9 hT9 => ?_)
            simp only [forall_mem_cons', forall_mem_nil', go_sem, Φa, hP, h8_3, h8_4, h8_5, h8_7, h8_8, h8_9, h8_10, h8_12, h8_13, h8_15] at hT9
            obtain ⟨h9_3, h9_4, h9_5, h9_7, h9_8, h9_9, h9_10, h9_12, h9_13, h9_15⟩ := hT9
            clear h8_3 h8_4 h8_5 h8_7 h8_8 h8_9 h8_10 h8_12 h8_13 h8_15 T8
            refine SX.join (fun (ss : (Feed)) T L' => (fun (w : Feed) => T 3 = T9 3 ∧ T 4 = T9 4 ∧ T 5 = T9 5 ∧ T 7 = T9 7 ∧ T 9 = T9 9 ∧ T 10 = T9 10 ∧ T 12 = T9 12 ∧ T 13 = T9 13 ∧ T 15 = T9 15 ∧ L' = some (b15, .cells w.cells.toArray 50 (0, 0)) :: some (b12, .cells ((stepG g f d).1.cells (.slice A0st (stepG g f d).1.st.length c0st) (.slice A0pg (stepG g f d).1.pg.length c0pg) (.slice A0mm (stepG g f d).1.mm.length c0mm)).toArray 29 (0, 0)) :: n1 :: n2 :: n3 :: some (b10, .cells (nextG g).1.cells.toArray 45 (0, 0)) :: some (b9, .cells e.cells.toArray 50 (0, 0)) :: some (b8, .cells d.cells.toArray 50 (0, 0)) :: some (b2, .cells (hcells d e f2 (.slice Bf f2.bs.length ef)).toArray 52 (0, 0)) :: some (b1, .cells (f.cells (.slice Af f.bs.length cf)).toArray 40 (0, 0)) :: some (b0, .cells (g.cells (.slice As g.st.length cs) (.slice Ap g.pg.length cp) (.slice Am g.mm.length cm)).toArray 29 (0, 0)) :: L ∧ (OkD w ∧ (-9223372036854775808 ≤ w.key ∧ w.key ≤ 9223372036854775807) ∧ ((nextG g).1.op = 19 → w.rnd = d.rnd) ∧ ((nextG g).1.op = 21 ∨ (nextG g).1.op = 22 → downG g (nextG g).1 w = downG g (nextG g).1 d) ∧ w.key = d.key)) (ss)) (fun K21 hK21 => ?_) ?_
            · simp only [h9_3, h9_4, h9_5, h9_7, h9_9, h9_10, h9_12, h9_13, h9_15] at hK21
              refine SX.seq_k fun K22 hK22 => ?_
              refine SX.region_xd [some 64, some 65, some 66, some 67, some 68, some 69, some 70, some 71] rfl (fun ops hops => ?_)
              unfold Dsts at hops
              refine RX.live [3, 4, 5, 7, 8, 9, 10, 12, 13, 15] (fun T10 hT10 => ?_)
              simp only [forall_mem_cons', forall_mem_nil', go_sem, Φa, hP, h9_3, h9_4, h9_5, h9_7, h9_8, h9_9, h9_10, h9_12, h9_13, h9_15] at hT10
              obtain ⟨h10_3, h10_4, h10_5, h10_7, h10_8, h10_9, h10_10, h10_12, h10_13, h10_15⟩ := hT10
              clear h9_3 h9_4 h9_5 h9_7 h9_8 h9_9 h9_10 h9_12 h9_13 h9_15 T9
              refine RX.join 8 (fun (ss : Unit) T L' => T 71 = .bool ((!decide (((nextG g).1.op : Int) = 21)) && !decide (((nextG g).1.op : Int) = 22)) ∧ T 3 = T10 3 ∧ T 4 = T10 4 ∧ T 5 = T10 5 ∧ T 7 = T10 7 ∧ T 8 = T10 8 ∧ T 9 = T10 9 ∧ T 10 = T10 10 ∧ T 12 = T10 12 ∧ T 13 = T10 13 ∧ T 15 = T10 15 ∧ L' = some (b15, .cells w.cells.toArray 50 (0, 0)) :: some (b12, .cells ((stepG g f d).1.cells (.slice A0st (stepG g f d).1.st.length c0st) (.slice A0pg (stepG g f d).1.pg.length c0pg) (.slice A0mm (stepG g f d).1.mm.length c0mm)).toArray 29 (0, 0)) :: n1 :: n2 :: n3 :: some (b10, .cells (nextG g).1.cells.toArray 45 (0, 0)) :: some (b9, .cells e.cells.toArray 50 (0, 0)) :: some (b8, .cells d.cells.toArray 50 (0, 0)) :: some (b2, .cells (hcells d e f2 (.slice Bf f2.bs.length ef)).toArray 52 (0, 0)) :: some (b1, .cells (f.cells (.slice Af f.bs.length cf)).toArray 40 (0, 0)) :: some (b0, .cells (g.cells (.slice As g.st.length cs) (.slice Ap g.pg.length cp) (.slice Am g.mm.length cm)).toArray 29 (0, 0)) :: L ∧ (True)) (fun K23 hK23 => ?_) ?_
              · simp only [h10_3, h10_4, h10_5, h10_7, h10_8, h10_9, h10_10, h10_12, h10_13, h10_15] at hK23
                simp (maxSteps:=1000000)(dsimp:=false)(disch:=omega) only [go_sem, Φa, hP, h10_3, h10_4, h10_5, h10_7, h10_8, h10_9, h10_10, h10_12, h10_13, h10_15, hops]
                repeat' (first | refine iteB (fun hg => ?_) (fun hg => ?_) | refine iteI (fun hg => ?_) (fun hg => ?_) | ((first | refine ⟨_, Cell.at 5 rfl (show (Ord.cells _)[0]? = some (.int .u8 ((nextG g).1.op : Int)) from rfl), ?_⟩ | refine And.intro (by omega) ?_ | refine ⟨_, Cell.at 0 rfl rfl, ?_⟩ | refine ⟨_, Cell.at 1 rfl rfl, ?_⟩ | refine ⟨_, Cell.at 2 rfl rfl, ?_⟩ | refine ⟨_, Cell.at 3 rfl rfl, ?_⟩ | refine ⟨_, Cell.at 4 rfl rfl, ?_⟩ | refine ⟨_, Cell.at 5 rfl rfl, ?_⟩ | refine ⟨_, Cell.at 6 rfl rfl, ?_⟩ | refine ⟨_, Cell.at 7 rfl rfl, ?_⟩ | refine ⟨_, Cell.at 8 rfl rfl, ?_⟩ | refine ⟨_, Cell.at 9 rfl rfl, ?_⟩ | refine ⟨_, Cell.at 10 rfl rfl, ?_⟩ | fail); try (with_reducible refine stI ?_); try simp (maxSteps:=1000000)(dsimp:=false)(disch:=omega) only [go_sem, Φa, hP, h10_3, h10_4, h10_5, h10_7, h10_8, h10_9, h10_10, h10_12, h10_13, h10_15, hops]) | fail)
                all_goals
                  refine hK23 () _ (some (b15, .cells w.cells.toArray 50 (0, 0)) :: some (b12, .cells ((stepG g f d).1.cells (.slice A0st (stepG g f d).1.st.length c0st) (.slice A0pg (stepG g f d).1.pg.length c0pg) (.slice A0mm (stepG g f d).1.mm.length c0mm)).toArray 29 (0, 0)) :: n1 :: n2 :: n3 :: some (b10, .cells (nextG g).1.cells.toArray 45 (0, 0)) :: some (b9, .cells e.cells.toArray 50 (0, 0)) :: some (b8, .cells d.cells.toArray 50 (0, 0)) :: some (b2, .cells (hcells d e f2 (.slice Bf f2.bs.length ef)).toArray 52 (0, 0)) :: some (b1, .cells (f.cells (.slice Af f.bs.length cf)).toArray 40 (0, 0)) :: some (b0, .cells (g.cells (.slice As g.st.length cs) (.slice Ap g.pg.length cp) (.slice Am g.mm.length cm)).toArray 29 (0, 0)) :: L) _ (by first | exact Less.refl _ | exact Less.drop _ _ | exact Less.drops (Less.drop _ _) | exact Less.drops (Less.drops (Less.drop _ _)) | exact Less.drops (Less.drops (Less.drops (Less.drop _ _))) | exact Less.drops (Less.drops (Less.drops (Less.drops (Less.drop _ _))))) ?_
                  try dsimp only
                  refine ⟨?_, ?_, ?_, ?_, ?_, ?_, ?_, ?_, ?_, ?_, ?_, ?_, ?_⟩
                  · simp (maxSteps:=1000000)(dsimp:=false)(disch:=omega) only [go_sem, Φa, hP, h10_3, h10_4, h10_5, h10_7, h10_8, h10_9, h10_10, h10_12, h10_13, h10_15]
                    first | done | (refine congrArg Value.bool ?_; simp_all; done)
                  · simp (maxSteps:=1000000)(dsimp:=false)(disch:=omega) only [go_sem, Φa, hP, h10_3, h10_4, h10_5, h10_7, h10_8, h10_9, h10_10, h10_12, h10_13, h10_15]
                  · simp (maxSteps:=1000000)(dsimp:=false)(disch:=omega) only [go_sem, Φa, hP, h10_3, h10_4, h10_5, h10_7, h10_8, h10_9, h10_10, h10_12, h10_13, h10_15]
                  · simp (maxSteps:=1000000)(dsimp:=false)(disch:=omega) only [go_sem, Φa, hP, h10_3, h10_4, h10_5, h10_7, h10_8, h10_9, h10_10, h10_12, h10_13, h10_15]
                  · simp (maxSteps:=1000000)(dsimp:=false)(disch:=omega) only [go_sem, Φa, hP, h10_3, h10_4, h10_5, h10_7, h10_8, h10_9, h10_10, h10_12, h10_13, h10_15]
                  · simp (maxSteps:=1000000)(dsimp:=false)(disch:=omega) only [go_sem, Φa, hP, h10_3, h10_4, h10_5, h10_7, h10_8, h10_9, h10_10, h10_12, h10_13, h10_15]
                  · simp (maxSteps:=1000000)(dsimp:=false)(disch:=omega) only [go_sem, Φa, hP, h10_3, h10_4, h10_5, h10_7, h10_8, h10_9, h10_10, h10_12, h10_13, h10_15]
                  · simp (maxSteps:=1000000)(dsimp:=false)(disch:=omega) only [go_sem, Φa, hP, h10_3, h10_4, h10_5, h10_7, h10_8, h10_9, h10_10, h10_12, h10_13, h10_15]
                  · simp (maxSteps:=1000000)(dsimp:=false)(disch:=omega) only [go_sem, Φa, hP, h10_3, h10_4, h10_5, h10_7, h10_8, h10_9, h10_10, h10_12, h10_13, h10_15]
                  · simp (maxSteps:=1000000)(dsimp:=false)(disch:=omega) only [go_sem, Φa, hP, h10_3, h10_4, h10_5, h10_7, h10_8, h10_9, h10_10, h10_12, h10_13, h10_15]
                  · simp (maxSteps:=1000000)(dsimp:=false)(disch:=omega) only [go_sem, Φa, hP, h10_3, h10_4, h10_5, h10_7, h10_8, h10_9, h10_10, h10_12, h10_13, h10_15]
                  · rfl
                  · trivial
              · intro ss T11 L11 hI
                simp only [h10_3, h10_4, h10_5, h10_7, h10_8, h10_9, h10_10, h10_12, h10_13, h10_15] at hI 
                obtain ⟨h11_71, h11_3, h11_4, h11_5, h11_7, h11_8, h11_9, h11_10, h11_12, h11_13, h11_15, hL11, hinv⟩ := hI
                replace hL11 := hL11.symm
                subst hL11
                clear h10_3 h10_4 h10_5 h10_7 h10_8 h10_9 h10_10 h10_12 h10_13 h10_15 T10
                refine RX.done ?_
                simp (maxSteps:=1000000)(dsimp:=false)(disch:=omega) only [go_sem, Φa, hP, h11_71, h11_3, h11_4, h11_5, h11_7, h11_8, h11_9, h11_10, h11_12, h11_13, h11_15, hops]
                refine hK22 _ _ ?_
                try clear hK22 K22
                refine SX.cond_k fun X24 Y24 hX24 hY24 => ?_
                simp (maxSteps:=1000000)(dsimp:=false)(disch:=omega) only [go_sem, Φa, hP, h11_71, h11_3, h11_4, h11_5, h11_7, h11_8, h11_9, h11_10, h11_12, h11_13, h11_15, condVC]
                refine ⟨fun hc71 => hX24 ?_, fun hc71 => hY24 ?_⟩
                · clear hX24 hY24 X24 Y24
                  refine SX.region_d [some 72, some 73, some 74, none] rfl (fun ops hops => ?_)
                  unfold Dsts at hops
                  simp (maxSteps:=1000000)(dsimp:=false)(disch:=omega) only [go_sem, Φa, hP, h11_71, h11_3, h11_4, h11_5, h11_7, h11_8, h11_9, h11_10, h11_12, h11_13, h11_15, hops]
                  refine ⟨_, Cell.at 6 rfl (show (Feed.cells _)[1]? = some (.int .u16 e.keys) from rfl), ?_⟩
                  try with_reducible refine stI ?_
                  try simp (maxSteps:=1000000)(dsimp:=false)(disch:=omega) only [go_sem, Φa, hP, h11_71, h11_3, h11_4, h11_5, h11_7, h11_8, h11_9, h11_10, h11_12, h11_13, h11_15, hops]
                  refine ⟨0, _, _, _, rfl, (by simp [Feed.cells]), .inr (by decide), ?_⟩
                  try with_reducible refine stI ?_
                  try simp (maxSteps:=1000000)(dsimp:=false)(disch:=omega) only [go_sem, Φa, hP, h11_71, h11_3, h11_4, h11_5, h11_7, h11_8, h11_9, h11_10, h11_12, h11_13, h11_15, hops]
                  refine hK21 { w with keys := e.keys } _ (some (b15, .cells ({ w with keys := e.keys }).cells.toArray 50 (0, 0)) :: some (b12, .cells ((stepG g f d).1.cells (.slice A0st (stepG g f d).1.st.length c0st) (.slice A0pg (stepG g f d).1.pg.length c0pg) (.slice A0mm (stepG g f d).1.mm.length c0mm)).toArray 29 (0, 0)) :: n1 :: n2 :: n3 :: some (b10, .cells (nextG g).1.cells.toArray 45 (0, 0)) :: some (b9, .cells e.cells.toArray 50 (0, 0)) :: some (b8, .cells d.cells.toArray 50 (0, 0)) :: some (b2, .cells (hcells d e f2 (.slice Bf f2.bs.length ef)).toArray 52 (0, 0)) :: some (b1, .cells (f.cells (.slice Af f.bs.length cf)).toArray 40 (0, 0)) :: some (b0, .cells (g.cells (.slice As g.st.length cs) (.slice Ap g.pg.length cp) (.slice Am g.mm.length cm)).toArray 29 (0, 0)) :: L) _ (by first | exact Less.refl _ | exact Less.drop _ _ | exact Less.drops (Less.drop _ _) | exact Less.drops (Less.drops (Less.drop _ _)) | exact Less.drops (Less.drops (Less.drops (Less.drop _ _))) | exact Less.drops (Less.drops (Less.drops (Less.drops (Less.drop _ _))))) ?_
                  try dsimp only
                  refine ⟨?_, ?_, ?_, ?_, ?_, ?_, ?_, ?_, ?_, ?_, ?_⟩
                  · simp (maxSteps:=1000000)(dsimp:=false)(disch:=omega) only [go_sem, Φa, hP, h11_71, h11_3, h11_4, h11_5, h11_7, h11_8, h11_9, h11_10, h11_12, h11_13, h11_15]
                  · simp (maxSteps:=1000000)(dsimp:=false)(disch:=omega) only [go_sem, Φa, hP, h11_71, h11_3, h11_4, h11_5, h11_7, h11_8, h11_9, h11_10, h11_12, h11_13, h11_15]
                  · simp (maxSteps:=1000000)(dsimp:=false)(disch:=omega) only [go_sem, Φa, hP, h11_71, h11_3, h11_4, h11_5, h11_7, h11_8, h11_9, h11_10, h11_12, h11_13, h11_15]
                  · simp (maxSteps:=1000000)(dsimp:=false)(disch:=omega) only [go_sem, Φa, hP, h11_71, h11_3, h11_4, h11_5, h11_7, h11_8, h11_9, h11_10, h11_12, h11_13, h11_15]
                  · simp (maxSteps:=1000000)(dsimp:=false)(disch:=omega) only [go_sem, Φa, hP, h11_71, h11_3, h11_4, h11_5, h11_7, h11_8, h11_9, h11_10, h11_12, h11_13, h11_15]
                  · simp (maxSteps:=1000000)(dsimp:=false)(disch:=omega) only [go_sem, Φa, hP, h11_71, h11_3, h11_4, h11_5, h11_7, h11_8, h11_9, h11_10, h11_12, h11_13, h11_15]
                  · simp (maxSteps:=1000000)(dsimp:=false)(disch:=omega) only [go_sem, Φa, hP, h11_71, h11_3, h11_4, h11_5, h11_7, h11_8, h11_9, h11_10, h11_12, h11_13, h11_15]
                  · simp (maxSteps:=1000000)(dsimp:=false)(disch:=omega) only [go_sem, Φa, hP, h11_71, h11_3, h11_4, h11_5, h11_7, h11_8, h11_9, h11_10, h11_12, h11_13, h11_15]
                  · simp (maxSteps:=1000000)(dsimp:=false)(disch:=omega) only [go_sem, Φa, hP, h11_71, h11_3, h11_4, h11_5, h11_7, h11_8, h11_9, h11_10, h11_12, h11_13, h11_15]
                  · rfl
                  · exact ⟨⟨hw1.rnd, he.keys⟩, hwk, hw2, fun h => absurd h (by simp at hc71; omega), hw4⟩
                · clear hX24 hY24 X24 Y24
                  refine SX.seq_k fun K25 hK25 => ?_
                  have hvx := byte_at hg.Vb (nextG g).1.x
                  have hti : ((nextG g).1.x : Int).toNat = (nextG g).1.x := by omega
                  have htm : 0 ≤ (g.V.getD (nextG g).1.x 0).tmod 16 ∧ (g.V.getD (nextG g).1.x 0).tmod 16 < 16 := by rw [Int.tmod_eq_emod_of_nonneg hvx.1]; omega
                  refine SX.region_d [some 75, some 76, some 77, some 78, some 79, some 80, some 81, some 16] rfl (fun ops hops => ?_)
                  unfold Dsts at hops
                  simp (maxSteps:=1000000)(dsimp:=false)(disch:=omega) only [go_sem, Φa, hP, h11_71, h11_3, h11_4, h11_5, h11_7, h11_8, h11_9, h11_10, h11_12, h11_13, h11_15, hops]
                  refine ⟨_, Cell.at 5 rfl (show (Ord.cells _)[1]? = some (.int .u8 ((nextG g).1.x : Int)) from rfl), ?_⟩
                  try with_reducible refine stI ?_
                  try simp (maxSteps:=1000000)(dsimp:=false)(disch:=omega) only [go_sem, Φa, hP, h11_71, h11_3, h11_4, h11_5, h11_7, h11_8, h11_9, h11_10, h11_12, h11_13, h11_15, hops]
                  refine ⟨_, Cell.at 10 rfl (gV hxx), ?_⟩
                  try with_reducible refine stI ?_
                  try simp (maxSteps:=1000000)(dsimp:=false)(disch:=omega) only [go_sem, Φa, hP, h11_71, h11_3, h11_4, h11_5, h11_7, h11_8, h11_9, h11_10, h11_12, h11_13, h11_15, hops]
                  refine hK25 _ _ ?_
                  try clear hK25 K25
                  refine SX.region_d [some 82, some 83, some 84, some 85, some 86, some 87, some 88, some 89, some 90, some 91, none] rfl (fun ops hops => ?_)
                  unfold Dsts at hops
                  simp (maxSteps:=1000000)(dsimp:=false)(disch:=omega) only [go_sem, Φa, hP, h11_71, h11_3, h11_4, h11_5, h11_7, h11_8, h11_9, h11_10, h11_12, h11_13, h11_15, hops]
                  refine ⟨_, Cell.at 6 rfl (show (Feed.cells _)[1]? = some (.int .u16 e.keys) from rfl), ?_⟩
                  try with_reducible refine stI ?_
                  try simp (maxSteps:=1000000)(dsimp:=false)(disch:=omega) only [go_sem, Φa, hP, h11_71, h11_3, h11_4, h11_5, h11_7, h11_8, h11_9, h11_10, h11_12, h11_13, h11_15, hops]
                  refine ⟨_, Cell.at 7 rfl (show (Feed.cells _)[1]? = some (.int .u16 d.keys) from rfl), ?_⟩
                  try with_reducible refine stI ?_
                  try simp (maxSteps:=1000000)(dsimp:=false)(disch:=omega) only [go_sem, Φa, hP, h11_71, h11_3, h11_4, h11_5, h11_7, h11_8, h11_9, h11_10, h11_12, h11_13, h11_15, hops]
                  refine ⟨0, _, _, _, rfl, (by simp [Feed.cells]), .inr (by decide), ?_⟩
                  try with_reducible refine stI ?_
                  try simp (maxSteps:=1000000)(dsimp:=false)(disch:=omega) only [go_sem, Φa, hP, h11_71, h11_3, h11_4, h11_5, h11_7, h11_8, h11_9, h11_10, h11_12, h11_13, h11_15, hops]
                  refine hK21 { w with keys := bits .or .u16 (bits .andNot .u16 e.keys (IntKind.u16.wrap (1 * 2 ^ min ((g.V.getD (nextG g).1.x 0).tmod 16).toNat 16))) (bits .and .u16 d.keys (IntKind.u16.wrap (1 * 2 ^ min ((g.V.getD (nextG g).1.x 0).tmod 16).toNat 16))) } _ (some (b15, .cells ({ w with keys := bits .or .u16 (bits .andNot .u16 e.keys (IntKind.u16.wrap (1 * 2 ^ min ((g.V.getD (nextG g).1.x 0).tmod 16).toNat 16))) (bits .and .u16 d.keys (IntKind.u16.wrap (1 * 2 ^ min ((g.V.getD (nextG g).1.x 0).tmod 16).toNat 16))) }).cells.toArray 50 (0, 0)) :: some (b12, .cells ((stepG g f d).1.cells (.slice A0st (stepG g f d).1.st.length c0st) (.slice A0pg (stepG g f d).1.pg.length c0pg) (.slice A0mm (stepG g f d).1.mm.length c0mm)).toArray 29 (0, 0)) :: n1 :: n2 :: n3 :: some (b10, .cells (nextG g).1.cells.toArray 45 (0, 0)) :: some (b9, .cells e.cells.toArray 50 (0, 0)) :: some (b8, .cells d.cells.toArray 50 (0, 0)) :: some (b2, .cells (hcells d e f2 (.slice Bf f2.bs.length ef)).toArray 52 (0, 0)) :: some (b1, .cells (f.cells (.slice Af f.bs.length cf)).toArray 40 (0, 0)) :: some (b0, .cells (g.cells (.slice As g.st.length cs) (.slice Ap g.pg.length cp) (.slice Am g.mm.length cm)).toArray 29 (0, 0)) :: L) _ (by first | exact Less.refl _ | exact Less.drop _ _ | exact Less.drops (Less.drop _ _) | exact Less.drops (Less.drops (Less.drop _ _)) | exact Less.drops (Less.drops (Less.drops (Less.drop _ _))) | exact Less.drops (Less.drops (Less.drops (Less.drops (Less.drop _ _))))) ?_
                  try dsimp only
                  refine ⟨?_, ?_, ?_, ?_, ?_, ?_, ?_, ?_, ?_, ?_, ?_⟩
                  · simp (maxSteps:=1000000)(dsimp:=false)(disch:=omega) only [go_sem, Φa, hP, h11_71, h11_3, h11_4, h11_5, h11_7, h11_8, h11_9, h11_10, h11_12, h11_13, h11_15]
                  · simp (maxSteps:=1000000)(dsimp:=false)(disch:=omega) only [go_sem, Φa, hP, h11_71, h11_3, h11_4, h11_5, h11_7, h11_8, h11_9, h11_10, h11_12, h11_13, h11_15]
                  · simp (maxSteps:=1000000)(dsimp:=false)(disch:=omega) only [go_sem, Φa, hP, h11_71, h11_3, h11_4, h11_5, h11_7, h11_8, h11_9, h11_10, h11_12, h11_13, h11_15]
                  · simp (maxSteps:=1000000)(dsimp:=false)(disch:=omega) only [go_sem, Φa, hP, h11_71, h11_3, h11_4, h11_5, h11_7, h11_8, h11_9, h11_10, h11_12, h11_13, h11_15]
                  · simp (maxSteps:=1000000)(dsimp:=false)(disch:=omega) only [go_sem, Φa, hP, h11_71, h11_3, h11_4, h11_5, h11_7, h11_8, h11_9, h11_10, h11_12, h11_13, h11_15]
                  · simp (maxSteps:=1000000)(dsimp:=false)(disch:=omega) only [go_sem, Φa, hP, h11_71, h11_3, h11_4, h11_5, h11_7, h11_8, h11_9, h11_10, h11_12, h11_13, h11_15]
                  · simp (maxSteps:=1000000)(dsimp:=false)(disch:=omega) only [go_sem, Φa, hP, h11_71, h11_3, h11_4, h11_5, h11_7, h11_8, h11_9, h11_10, h11_12, h11_13, h11_15]
                  · simp (maxSteps:=1000000)(dsimp:=false)(disch:=omega) only [go_sem, Φa, hP, h11_71, h11_3, h11_4, h11_5, h11_7, h11_8, h11_9, h11_10, h11_12, h11_13, h11_15]
                  · simp (maxSteps:=1000000)(dsimp:=false)(disch:=omega) only [go_sem, Φa, hP, h11_71, h11_3, h11_4, h11_5, h11_7, h11_8, h11_9, h11_10, h11_12, h11_13, h11_15]
                  · rfl
                  · exact ⟨⟨hw1.rnd, by dsimp only; exact bits16 _ _ _⟩, hwk, hw2, fun h => down_same hg hd he _ rfl, hw4⟩
            · intro w T12 L12 hI
              try dsimp only at hI 
              simp only [h9_3, h9_4, h9_5, h9_7, h9_9, h9_10, h9_12, h9_13, h9_15] at hI 
              obtain ⟨h12_3, h12_4, h12_5, h12_7, h12_9, h12_10, h12_12, h12_13, h12_15, hL12, ⟨hw1, hwk, hw2, hw3, hw4⟩⟩ := hI
              replace hL12 := hL12.symm
              subst hL12
              clear h9_3 h9_4 h9_5 h9_7 h9_8 h9_9 h9_10 h9_12 h9_13 h9_15 T9
              refine SX.live [3, 4, 5, 7, 9, 10, 12, 13, 15] (fun T13 hT13 => ?_)
              simp only [forall_mem_cons', forall_mem_nil', go_sem, Φa, hP, h12_3, h12_4, h12_5, h12_7, h12_9, h12_10, h12_12, h12_13, h12_15] at hT13
              obtain ⟨h13_3, h13_4, h13_5, h13_7, h13_9, h13_10, h13_12, h13_13, h13_15⟩ := hT13
              clear h12_3 h12_4 h12_5 h12_7 h12_9 h12_10 h12_12 h12_13 h12_15 T12
              refine SX.join (fun (ss : (Feed)) T L' => (fun (w : Feed) => T 3 = T13 3 ∧ T 4 = T13 4 ∧ T 5 = T13 5 ∧ T 7 = T13 7 ∧ T 10 = T13 10 ∧ T 12 = T13 12 ∧ T 13 = T13 13 ∧ T 15 = T13 15 ∧ L' = some (b15, .cells w.cells.toArray 50 (0, 0)) :: some (b12, .cells ((stepG g f d).1.cells (.slice A0st (stepG g f d).1.st.length c0st) (.slice A0pg (stepG g f d).1.pg.length c0pg) (.slice A0mm (stepG g f d).1.mm.length c0mm)).toArray 29 (0, 0)) :: n1 :: n2 :: n3 :: some (b10, .cells (nextG g).1.cells.toArray 45 (0, 0)) :: some (b9, .cells e.cells.toArray 50 (0, 0)) :: some (b8, .cells d.cells.toArray 50 (0, 0)) :: some (b2, .cells (hcells d e f2 (.slice Bf f2.bs.length ef)).toArray 52 (0, 0)) :: some (b1, .cells (f.cells (.slice Af f.bs.length cf)).toArray 40 (0, 0)) :: some (b0, .cells (g.cells (.slice As g.st.length cs) (.slice Ap g.pg.length cp) (.slice Am g.mm.length cm)).toArray 29 (0, 0)) :: L ∧ (OkD w ∧ (-9223372036854775808 ≤ w.key ∧ w.key ≤ 9223372036854775807) ∧ ((nextG g).1.op = 19 → w.rnd = d.rnd) ∧ ((nextG g).1.op = 21 ∨ (nextG g).1.op = 22 → downG g (nextG g).1 w = downG g (nextG g).1 d) ∧ ((nextG g).1.op = 24 → w.key = d.key))) (ss)) (fun K26 hK26 => ?_) ?_
              · simp only [h13_3, h13_4, h13_5, h13_7, h13_10, h13_12, h13_13, h13_15] at hK26
                refine SX.seq_k fun K27 hK27 => ?_
                refine SX.region_d [some 92, some 93, some 94] rfl (fun ops hops => ?_)
                unfold Dsts at hops
                simp (maxSteps:=1000000)(dsimp:=false)(disch:=omega) only [go_sem, Φa, hP, h13_3, h13_4, h13_5, h13_7, h13_9, h13_10, h13_12, h13_13, h13_15, hops]
                refine ⟨_, Cell.at 5 rfl (show (Ord.cells _)[0]? = some (.int .u8 ((nextG g).1.op : Int)) from rfl), ?_⟩
                try with_reducible refine stI ?_
                try simp (maxSteps:=1000000)(dsimp:=false)(disch:=omega) only [go_sem, Φa, hP, h13_3, h13_4, h13_5, h13_7, h13_9, h13_10, h13_12, h13_13, h13_15, hops]
                refine hK27 _ _ ?_
                try clear hK27 K27
                refine SX.cond_k fun X28 Y28 hX28 hY28 => ?_
                simp (maxSteps:=1000000)(dsimp:=false)(disch:=omega) only [go_sem, Φa, hP, h13_3, h13_4, h13_5, h13_7, h13_9, h13_10, h13_12, h13_13, h13_15, condVC]
                refine ⟨fun hc94 => hX28 ?_, fun hc94 => hY28 ?_⟩
                · clear hX28 hY28 X28 Y28
                  refine SX.region_d [some 95, some 96, some 97, none] rfl (fun ops hops => ?_)
                  unfold Dsts at hops
                  simp (maxSteps:=1000000)(dsimp:=false)(disch:=omega) only [go_sem, Φa, hP, h13_3, h13_4, h13_5, h13_7, h13_9, h13_10, h13_12, h13_13, h13_15, hops]
                  refine ⟨_, Cell.at 6 rfl (show (Feed.cells _)[2]? = some (.int .i64 e.key) from rfl), ?_⟩
                  try with_reducible refine stI ?_
                  try simp (maxSteps:=1000000)(dsimp:=false)(disch:=omega) only [go_sem, Φa, hP, h13_3, h13_4, h13_5, h13_7, h13_9, h13_10, h13_12, h13_13, h13_15, hops]
                  refine ⟨0, _, _, _, rfl, (by simp [Feed.cells]), .inr (by decide), ?_⟩
                  try with_reducible refine stI ?_
                  try simp (maxSteps:=1000000)(dsimp:=false)(disch:=omega) only [go_sem, Φa, hP, h13_3, h13_4, h13_5, h13_7, h13_9, h13_10, h13_12, h13_13, h13_15, hops]
                  refine hK26 { w with key := e.key } _ (some (b15, .cells ({ w with key := e.key }).cells.toArray 50 (0, 0)) :: some (b12, .cells ((stepG g f d).1.cells (.slice A0st (stepG g f d).1.st.length c0st) (.slice A0pg (stepG g f d).1.pg.length c0pg) (.slice A0mm (stepG g f d).1.mm.length c0mm)).toArray 29 (0, 0)) :: n1 :: n2 :: n3 :: some (b10, .cells (nextG g).1.cells.toArray 45 (0, 0)) :: some (b9, .cells e.cells.toArray 50 (0, 0)) :: some (b8, .cells d.cells.toArray 50 (0, 0)) :: some (b2, .cells (hcells d e f2 (.slice Bf f2.bs.length ef)).toArray 52 (0, 0)) :: some (b1, .cells (f.cells (.slice Af f.bs.length cf)).toArray 40 (0, 0)) :: some (b0, .cells (g.cells (.slice As g.st.length cs) (.slice Ap g.pg.length cp) (.slice Am g.mm.length cm)).toArray 29 (0, 0)) :: L) _ (by first | exact Less.refl _ | exact Less.drop _ _ | exact Less.drops (Less.drop _ _) | exact Less.drops (Less.drops (Less.drop _ _)) | exact Less.drops (Less.drops (Less.drops (Less.drop _ _))) | exact Less.drops (Less.drops (Less.drops (Less.drops (Less.drop _ _))))) ?_
                  try dsimp only
                  refine ⟨?_, ?_, ?_, ?_, ?_, ?_, ?_, ?_, ?_, ?_⟩
                  · simp (maxSteps:=1000000)(dsimp:=false)(disch:=omega) only [go_sem, Φa, hP, h13_3, h13_4, h13_5, h13_7, h13_9, h13_10, h13_12, h13_13, h13_15]
                  · simp (maxSteps:=1000000)(dsimp:=false)(disch:=omega) only [go_sem, Φa, hP, h13_3, h13_4, h13_5, h13_7, h13_9, h13_10, h13_12, h13_13, h13_15]
                  · simp (maxSteps:=1000000)(dsimp:=false)(disch:=omega) only [go_sem, Φa, hP, h13_3, h13_4, h13_5, h13_7, h13_9, h13_10, h13_12, h13_13, h13_15]
                  · simp (maxSteps:=1000000)(dsimp:=false)(disch:=omega) only [go_sem, Φa, hP, h13_3, h13_4, h13_5, h13_7, h13_9, h13_10, h13_12, h13_13, h13_15]
                  · simp (maxSteps:=1000000)(dsimp:=false)(disch:=omega) only [go_sem, Φa, hP, h13_3, h13_4, h13_5, h13_7, h13_9, h13_10, h13_12, h13_13, h13_15]
                  · simp (maxSteps:=1000000)(dsimp:=false)(disch:=omega) only [go_sem, Φa, hP, h13_3, h13_4, h13_5, h13_7, h13_9, h13_10, h13_12, h13_13, h13_15]
                  · simp (maxSteps:=1000000)(dsimp:=false)(disch:=omega) only [go_sem, Φa, hP, h13_3, h13_4, h13_5, h13_7, h13_9, h13_10, h13_12, h13_13, h13_15]
                  · simp (maxSteps:=1000000)(dsimp:=false)(disch:=omega) only [go_sem, Φa, hP, h13_3, h13_4, h13_5, h13_7, h13_9, h13_10, h13_12, h13_13, h13_15]
                  · rfl
                  · exact ⟨⟨hw1.rnd, hw1.keys⟩, ke, hw2, hw3, fun h => absurd h (by omega)⟩
                · clear hX28 hY28 X28 Y28
                  refine SX.skip ?_
                  try simp only [andThen_normal, andThen_ret, andThen_exit, inBlk_normal, inBlk_ret, inBlk_exit, Nat.reduceEqDiff, if_true, if_false, ↓reduceIte]
                  refine hK26 w _ (some (b15, .cells w.cells.toArray 50 (0, 0)) :: some (b12, .cells ((stepG g f d).1.cells (.slice A0st (stepG g f d).1.st.length c0st) (.slice A0pg (stepG g f d).1.pg.length c0pg) (.slice A0mm (stepG g f d).1.mm.length c0mm)).toArray 29 (0, 0)) :: n1 :: n2 :: n3 :: some (b10, .cells (nextG g).1.cells.toArray 45 (0, 0)) :: some (b9, .cells e.cells.toArray 50 (0, 0)) :: some (b8, .cells d.cells.toArray 50 (0, 0)) :: some (b2, .cells (hcells d e f2 (.slice Bf f2.bs.length ef)).toArray 52 (0, 0)) :: some (b1, .cells (f.cells (.slice Af f.bs.length cf)).toArray 40 (0, 0)) :: some (b0, .cells (g.cells (.slice As g.st.length cs) (.slice Ap g.pg.length cp) (.slice Am g.mm.length cm)).toArray 29 (0, 0)) :: L) _ (by first | exact Less.refl _ | exact Less.drop _ _ | exact Less.drops (Less.drop _ _) | exact Less.drops (Less.drops (Less.drop _ _)) | exact Less.drops (Less.drops (Less.drops (Less.drop _ _))) | exact Less.drops (Less.drops (Less.drops (Less.drops (Less.drop _ _))))) ?_
                  try dsimp only
                  refine ⟨?_, ?_, ?_, ?_, ?_, ?_, ?_, ?_, ?_, ?_⟩
                  · simp (maxSteps:=1000000)(dsimp:=false)(disch:=omega) only [go_sem, Φa, hP, h13_3, h13_4, h13_5, h13_7, h13_9, h13_10, h13_12, h13_13, h13_15]
                  · simp (maxSteps:=1000000)(dsimp:=false)(disch:=omega) only [go_sem, Φa, hP, h13_3, h13_4, h13_5, h13_7, h13_9, h13_10, h13_12, h13_13, h13_15]
                  · simp (maxSteps:=1000000)(dsimp:=false)(disch:=omega) only [go_sem, Φa, hP, h13_3, h13_4, h13_5, h13_7, h13_9, h13_10, h13_12, h13_13, h13_15]
                  · simp (maxSteps:=1000000)(dsimp:=false)(disch:=omega) only [go_sem, Φa, hP, h13_3, h13_4, h13_5, h13_7, h13_9, h13_10, h13_12, h13_13, h13_15]
                  · simp (maxSteps:=1000000)(dsimp:=false)(disch:=omega) only [go_sem, Φa, hP, h13_3, h13_4, h13_5, h13_7, h13_9, h13_10, h13_12, h13_13, h13_15]
                  · simp (maxSteps:=1000000)(dsimp:=false)(disch:=omega) only [go_sem, Φa, hP, h13_3, h13_4, h13_5, h13_7, h13_9, h13_10, h13_12, h13_13, h13_15]
                  · simp (maxSteps:=1000000)(dsimp:=false)(disch:=omega) only [go_sem, Φa, hP, h13_3, h13_4, h13_5, h13_7, h13_9, h13_10, h13_12, h13_13, h13_15]
                  · simp (maxSteps:=1000000)(dsimp:=false)(disch:=omega) only [go_sem, Φa, hP, h13_3, h13_4, h13_5, h13_7, h13_9, h13_10, h13_12, h13_13, h13_15]
                  · rfl
                  · exact ⟨hw1, hwk, hw2, hw3, fun _ => hw4⟩
              · intro w T14 L14 hI
                try dsimp only at hI 
                simp only [h13_3, h13_4, h13_5, h13_7, h13_10, h13_12, h13_13, h13_15] at hI 
                obtain ⟨h14_3, h14_4, h14_5, h14_7, h14_10, h14_12, h14_13, h14_15, hL14, ⟨hw1, hwk, hw2, hw3, hw4⟩⟩ := hI
                replace hL14 := hL14.symm
                subst hL14
                clear h13_3 h13_4 h13_5 h13_7 h13_9 h13_10 h13_12 h13_13 h13_15 T13
                refine SX.seq_k fun K29 hK29 => ?_
                refine SX.region_d [some 98, some 99, some 17, none] rfl (fun ops hops => ?_)
                unfold Dsts at hops
                simp (maxSteps:=1000000)(dsimp:=false)(disch:=omega) only [go_sem, Φa, hP, h14_3, h14_4, h14_5, h14_7, h14_10, h14_12, h14_13, h14_15, hops]
                refine ⟨_, Cell.at 8 rfl (show (hcells _ _ _ _)[6]? = _ from rfl), ?_⟩
                try with_reducible refine stI ?_
                try simp (maxSteps:=1000000)(dsimp:=false)(disch:=omega) only [go_sem, Φa, hP, h14_3, h14_4, h14_5, h14_7, h14_10, h14_12, h14_13, h14_15, hops]
                refine ⟨_, Cell.at 8 rfl (show (hcells _ _ _ _)[7]? = _ from rfl), ?_⟩
                try with_reducible refine stI ?_
                try simp (maxSteps:=1000000)(dsimp:=false)(disch:=omega) only [go_sem, Φa, hP, h14_3, h14_4, h14_5, h14_7, h14_10, h14_12, h14_13, h14_15, hops]
                refine ⟨_, Cell.at 8 rfl (show (hcells _ _ _ _)[8]? = _ from rfl), ?_⟩
                try with_reducible refine stI ?_
                try simp (maxSteps:=1000000)(dsimp:=false)(disch:=omega) only [go_sem, Φa, hP, h14_3, h14_4, h14_5, h14_7, h14_10, h14_12, h14_13, h14_15, hops]
                refine ⟨_, Cell.at 8 rfl (show (hcells _ _ _ _)[9]? = _ from rfl), ?_⟩
                try with_reducible refine stI ?_
                try simp (maxSteps:=1000000)(dsimp:=false)(disch:=omega) only [go_sem, Φa, hP, h14_3, h14_4, h14_5, h14_7, h14_10, h14_12, h14_13, h14_15, hops]
                refine ⟨_, Cell.at 8 rfl (show (hcells _ _ _ _)[10]? = _ from rfl), ?_⟩
                try with_reducible refine stI ?_
                try simp (maxSteps:=1000000)(dsimp:=false)(disch:=omega) only [go_sem, Φa, hP, h14_3, h14_4, h14_5, h14_7, h14_10, h14_12, h14_13, h14_15, hops]
                refine ⟨_, Cell.at 8 rfl (show (hcells _ _ _ _)[11]? = _ from rfl), ?_⟩
                try with_reducible refine stI ?_
                try simp (maxSteps:=1000000)(dsimp:=false)(disch:=omega) only [go_sem, Φa, hP, h14_3, h14_4, h14_5, h14_7, h14_10, h14_12, h14_13, h14_15, hops]
                refine ⟨_, Cell.at 8 rfl (show (hcells _ _ _ _)[12]? = _ from rfl), ?_⟩
                try with_reducible refine stI ?_
                try simp (maxSteps:=1000000)(dsimp:=false)(disch:=omega) only [go_sem, Φa, hP, h14_3, h14_4, h14_5, h14_7, h14_10, h14_12, h14_13, h14_15, hops]
                refine ⟨_, Cell.at 8 rfl (show (hcells _ _ _ _)[13]? = _ from rfl), ?_⟩
                try with_reducible refine stI ?_
                try simp (maxSteps:=1000000)(dsimp:=false)(disch:=omega) only [go_sem, Φa, hP, h14_3, h14_4, h14_5, h14_7, h14_10, h14_12, h14_13, h14_15, hops]
                refine ⟨_, Cell.at 8 rfl (show (hcells _ _ _ _)[14]? = _ from rfl), ?_⟩
                try with_reducible refine stI ?_
                try simp (maxSteps:=1000000)(dsimp:=false)(disch:=omega) only [go_sem, Φa, hP, h14_3, h14_4, h14_5, h14_7, h14_10, h14_12, h14_13, h14_15, hops]
                refine ⟨_, Cell.at 8 rfl (show (hcells _ _ _ _)[15]? = _ from rfl), ?_⟩
                try with_reducible refine stI ?_
                try simp (maxSteps:=1000000)(dsimp:=false)(disch:=omega) only [go_sem, Φa, hP, h14_3, h14_4, h14_5, h14_7, h14_10, h14_12, h14_13, h14_15, hops]
                refine ⟨_, Cell.at 8 rfl (show (hcells _ _ _ _)[16]? = _ from rfl), ?_⟩
                try with_reducible refine stI ?_
                try simp (maxSteps:=1000000)(dsimp:=false)(disch:=omega) only [go_sem, Φa, hP, h14_3, h14_4, h14_5, h14_7, h14_10, h14_12, h14_13, h14_15, hops]
                refine ⟨_, Cell.at 8 rfl (show (hcells _ _ _ _)[17]? = _ from rfl), ?_⟩
                try with_reducible refine stI ?_
                try simp (maxSteps:=1000000)(dsimp:=false)(disch:=omega) only [go_sem, Φa, hP, h14_3, h14_4, h14_5, h14_7, h14_10, h14_12, h14_13, h14_15, hops]
                refine ⟨_, Cell.at 8 rfl (show (hcells _ _ _ _)[18]? = _ from rfl), ?_⟩
                try with_reducible refine stI ?_
                try simp (maxSteps:=1000000)(dsimp:=false)(disch:=omega) only [go_sem, Φa, hP, h14_3, h14_4, h14_5, h14_7, h14_10, h14_12, h14_13, h14_15, hops]
                refine ⟨_, Cell.at 8 rfl (show (hcells _ _ _ _)[19]? = _ from rfl), ?_⟩
                try with_reducible refine stI ?_
                try simp (maxSteps:=1000000)(dsimp:=false)(disch:=omega) only [go_sem, Φa, hP, h14_3, h14_4, h14_5, h14_7, h14_10, h14_12, h14_13, h14_15, hops]
                refine ⟨_, Cell.at 8 rfl (show (hcells _ _ _ _)[20]? = _ from rfl), ?_⟩
                try with_reducible refine stI ?_
                try simp (maxSteps:=1000000)(dsimp:=false)(disch:=omega) only [go_sem, Φa, hP, h14_3, h14_4, h14_5, h14_7, h14_10, h14_12, h14_13, h14_15, hops]
                refine ⟨_, Cell.at 8 rfl (show (hcells _ _ _ _)[21]? = _ from rfl), ?_⟩
                try with_reducible refine stI ?_
                try simp (maxSteps:=1000000)(dsimp:=false)(disch:=omega) only [go_sem, Φa, hP, h14_3, h14_4, h14_5, h14_7, h14_10, h14_12, h14_13, h14_15, hops]
                refine ⟨_, Cell.at 8 rfl (show (hcells _ _ _ _)[22]? = _ from rfl), ?_⟩
                try with_reducible refine stI ?_
                try simp (maxSteps:=1000000)(dsimp:=false)(disch:=omega) only [go_sem, Φa, hP, h14_3, h14_4, h14_5, h14_7, h14_10, h14_12, h14_13, h14_15, hops]
                refine ⟨_, Cell.at 8 rfl (show (hcells _ _ _ _)[23]? = _ from rfl), ?_⟩
                try with_reducible refine stI ?_
                try simp (maxSteps:=1000000)(dsimp:=false)(disch:=omega) only [go_sem, Φa, hP, h14_3, h14_4, h14_5, h14_7, h14_10, h14_12, h14_13, h14_15, hops]
                intro b17
                try with_reducible refine stI ?_
                try simp (maxSteps:=1000000)(dsimp:=false)(disch:=omega) only [go_sem, Φa, hP, h14_3, h14_4, h14_5, h14_7, h14_10, h14_12, h14_13, h14_15, hops]
                refine ⟨0, _, _, _, rfl, by decide, .inr (by decide), ?_⟩
                try with_reducible refine stI ?_
                try simp (maxSteps:=1000000)(dsimp:=false)(disch:=omega) only [go_sem, Φa, hP, h14_3, h14_4, h14_5, h14_7, h14_10, h14_12, h14_13, h14_15, hops]
                refine hK29 _ _ ?_
                try clear hK29 K29
                refine SX.live [3, 4, 7, 10, 12, 13, 15, 17] (fun T15 hT15 => ?_)
                simp only [forall_mem_cons', forall_mem_nil', go_sem, Φa, hP, h14_3, h14_4, h14_5, h14_7, h14_10, h14_12, h14_13, h14_15] at hT15
                obtain ⟨h15_3, h15_4, h15_7, h15_10, h15_12, h15_13, h15_15, h15_17⟩ := hT15
                clear h14_3 h14_4 h14_5 h14_7 h14_10 h14_12 h14_13 h14_15 T14
                refine SX.join (fun (ss : (Fnt) × (Option Addr) × (Nat)) T L' => (fun (ff : Fnt) (Cf : Option Addr) (cc : Nat) => T 3 = T15 3 ∧ T 7 = T15 7 ∧ T 12 = T15 12 ∧ T 13 = T15 13 ∧ T 15 = T15 15 ∧ T 17 = T15 17 ∧ L' = some (b17, .cells (ff.cells (.slice Cf ff.bs.length cc)).toArray 40 (0, 0)) :: some (b15, .cells w.cells.toArray 50 (0, 0)) :: some (b12, .cells ((stepG g f d).1.cells (.slice A0st (stepG g f d).1.st.length c0st) (.slice A0pg (stepG g f d).1.pg.length c0pg) (.slice A0mm (stepG g f d).1.mm.length c0mm)).toArray 29 (0, 0)) :: n1 :: n2 :: n3 :: some (b10, .cells (nextG g).1.cells.toArray 45 (0, 0)) :: some (b9, .cells e.cells.toArray 50 (0, 0)) :: some (b8, .cells d.cells.toArray 50 (0, 0)) :: some (b2, .cells (hcells d e f2 (.slice Bf f2.bs.length ef)).toArray 52 (0, 0)) :: some (b1, .cells (f.cells (.slice Af f.bs.length cf)).toArray 40 (0, 0)) :: some (b0, .cells (g.cells (.slice As g.st.length cs) (.slice Ap g.pg.length cp) (.slice Am g.mm.length cm)).toArray 29 (0, 0)) :: L ∧ (OkF ff ∧ SlI .u8 (Cell Γ []) (.slice Cf ff.bs.length cc) ff.bs ∧ ff.bs.length ≤ 2147483647 ∧ ((nextG g).1.op = 28 ∨ (nextG g).1.op = 20 ∨ (nextG g).1.op = 31 → ff = f))) (ss.1) (ss.2.1) (ss.2.2)) (fun K30 hK30 => ?_) ?_
                · simp only [h15_3, h15_7, h15_12, h15_13, h15_15, h15_17] at hK30
                  refine SX.seq_k fun K31 hK31 => ?_
                  refine SX.region_xd [some 100, some 101, some 102, some 103, some 104, some 105, some 106, some 107, some 108, some 109, some 110, some 111, some 112] rfl (fun ops hops => ?_)
                  unfold Dsts at hops
                  refine RX.live [3, 4, 7, 10, 12, 13, 15, 17] (fun T16 hT16 => ?_)
                  simp only [forall_mem_cons', forall_mem_nil', go_sem, Φa, hP, h15_3, h15_4, h15_7, h15_10, h15_12, h15_13, h15_15, h15_17] at hT16
                  obtain ⟨h16_3, h16_4, h16_7, h16_10, h16_12, h16_13, h16_15, h16_17⟩ := hT16
                  clear h15_3 h15_4 h15_7 h15_10 h15_12 h15_13 h15_15 h15_17 T15
                  refine RX.join 8 (fun (ss : Unit) T L' => T 107 = .bool (decide (((nextG g).1.op : Int) = 28) || decide (((nextG g).1.op : Int) = 20)) ∧ T 3 = T16 3 ∧ T 4 = T16 4 ∧ T 7 = T16 7 ∧ T 10 = T16 10 ∧ T 12 = T16 12 ∧ T 13 = T16 13 ∧ T 15 = T16 15 ∧ T 17 = T16 17 ∧ L' = some (b17, .cells (f2.cells (.slice Bf f2.bs.length ef)).toArray 40 (0, 0)) :: some (b15, .cells w.cells.toArray 50 (0, 0)) :: some (b12, .cells ((stepG g f d).1.cells (.slice A0st (stepG g f d).1.st.length c0st) (.slice A0pg (stepG g f d).1.pg.length c0pg) (.slice A0mm (stepG g f d).1.mm.length c0mm)).toArray 29 (0, 0)) :: n1 :: n2 :: n3 :: some (b10, .cells (nextG g).1.cells.toArray 45 (0, 0)) :: some (b9, .cells e.cells.toArray 50 (0, 0)) :: some (b8, .cells d.cells.toArray 50 (0, 0)) :: some (b2, .cells (hcells d e f2 (.slice Bf f2.bs.length ef)).toArray 52 (0, 0)) :: some (b1, .cells (f.cells (.slice Af f.bs.length cf)).toArray 40 (0, 0)) :: some (b0, .cells (g.cells (.slice As g.st.length cs) (.slice Ap g.pg.length cp) (.slice Am g.mm.length cm)).toArray 29 (0, 0)) :: L ∧ (True)) (fun K32 hK32 => ?_) ?_
                  · simp only [h16_3, h16_4, h16_7, h16_10, h16_12, h16_13, h16_15, h16_17] at hK32
                    simp (maxSteps:=1000000)(dsimp:=false)(disch:=omega) only [go_sem, Φa, hP, h16_3, h16_4, h16_7, h16_10, h16_12, h16_13, h16_15, h16_17, hops]
                    repeat' (first | refine iteB (fun hg => ?_) (fun hg => ?_) | refine iteI (fun hg => ?_) (fun hg => ?_) | ((first | refine ⟨_, Cell.at 6 rfl (show (Ord.cells _)[0]? = some (.int .u8 ((nextG g).1.op : Int)) from rfl), ?_⟩ | refine And.intro (by omega) ?_ | refine ⟨_, Cell.at 0 rfl rfl, ?_⟩ | refine ⟨_, Cell.at 1 rfl rfl, ?_⟩ | refine ⟨_, Cell.at 2 rfl rfl, ?_⟩ | refine ⟨_, Cell.at 3 rfl rfl, ?_⟩ | refine ⟨_, Cell.at 4 rfl rfl, ?_⟩ | refine ⟨_, Cell.at 5 rfl rfl, ?_⟩ | refine ⟨_, Cell.at 6 rfl rfl, ?_⟩ | refine ⟨_, Cell.at 7 rfl rfl, ?_⟩ | refine ⟨_, Cell.at 8 rfl rfl, ?_⟩ | refine ⟨_, Cell.at 9 rfl rfl, ?_⟩ | refine ⟨_, Cell.at 10 rfl rfl, ?_⟩ | refine ⟨_, Cell.at 11 rfl rfl, ?_⟩ | fail); try (with_reducible refine stI ?_); try simp (maxSteps:=1000000)(dsimp:=false)(disch:=omega) only [go_sem, Φa, hP, h16_3, h16_4, h16_7, h16_10, h16_12, h16_13, h16_15, h16_17, hops]) | fail)
                    all_goals
                      refine hK32 () _ (some (b17, .cells (f2.cells (.slice Bf f2.bs.length ef)).toArray 40 (0, 0)) :: some (b15, .cells w.cells.toArray 50 (0, 0)) :: some (b12, .cells ((stepG g f d).1.cells (.slice A0st (stepG g f d).1.st.length c0st) (.slice A0pg (stepG g f d).1.pg.length c0pg) (.slice A0mm (stepG g f d).1.mm.length c0mm)).toArray 29 (0, 0)) :: n1 :: n2 :: n3 :: some (b10, .cells (nextG g).1.cells.toArray 45 (0, 0)) :: some (b9, .cells e.cells.toArray 50 (0, 0)) :: some (b8, .cells d.cells.toArray 50 (0, 0)) :: some (b2, .cells (hcells d e f2 (.slice Bf f2.bs.length ef)).toArray 52 (0, 0)) :: some (b1, .cells (f.cells (.slice Af f.bs.length cf)).toArray 40 (0, 0)) :: some (b0, .cells (g.cells (.slice As g.st.length cs) (.slice Ap g.pg.length cp) (.slice Am g.mm.length cm)).toArray 29 (0, 0)) :: L) _ (by first | exact Less.refl _ | exact Less.drop _ _ | exact Less.drops (Less.drop _ _) | exact Less.drops (Less.drops (Less.drop _ _)) | exact Less.drops (Less.drops (Less.drops (Less.drop _ _))) | exact Less.drops (Less.drops (Less.drops (Less.drops (Less.drop _ _))))) ?_
                      try dsimp only
                      refine ⟨?_, ?_, ?_, ?_, ?_, ?_, ?_, ?_, ?_, ?_, ?_⟩
                      · simp (maxSteps:=1000000)(dsimp:=false)(disch:=omega) only [go_sem, Φa, hP, h16_3, h16_4, h16_7, h16_10, h16_12, h16_13, h16_15, h16_17]
                        first | done | (refine congrArg Value.bool ?_; rw [Bool.eq_iff_iff]; simp only [Bool.or_eq_true,Bool.or_eq_false_iff,Bool.and_eq_true,Bool.and_eq_false_iff,Bool.not_eq_true',Bool.not_eq_false',decide_eq_true_eq,decide_eq_false_iff_not,Bool.true_eq_false,Bool.false_eq_true,true_iff,iff_true] at *; omega) | (refine congrArg Value.bool ?_; simp_all; done)
                      · simp (maxSteps:=1000000)(dsimp:=false)(disch:=omega) only [go_sem, Φa, hP, h16_3, h16_4, h16_7, h16_10, h16_12, h16_13, h16_15, h16_17]
                      · simp (maxSteps:=1000000)(dsimp:=false)(disch:=omega) only [go_sem, Φa, hP, h16_3, h16_4, h16_7, h16_10, h16_12, h16_13, h16_15, h16_17]
                      · simp (maxSteps:=1000000)(dsimp:=false)(disch:=omega) only [go_sem, Φa, hP, h16_3, h16_4, h16_7, h16_10, h16_12, h16_13, h16_15, h16_17]
                      · simp (maxSteps:=1000000)(dsimp:=false)(disch:=omega) only [go_sem, Φa, hP, h16_3, h16_4, h16_7, h16_10, h16_12, h16_13, h16_15, h16_17]
                      · simp (maxSteps:=1000000)(dsimp:=false)(disch:=omega) only [go_sem, Φa, hP, h16_3, h16_4, h16_7, h16_10, h16_12, h16_13, h16_15, h16_17]
                      · simp (maxSteps:=1000000)(dsimp:=false)(disch:=omega) only [go_sem, Φa, hP, h16_3, h16_4, h16_7, h16_10, h16_12, h16_13, h16_15, h16_17]
                      · simp (maxSteps:=1000000)(dsimp:=false)(disch:=omega) only [go_sem, Φa, hP, h16_3, h16_4, h16_7, h16_10, h16_12, h16_13, h16_15, h16_17]
                      · simp (maxSteps:=1000000)(dsimp:=false)(disch:=omega) only [go_sem, Φa, hP, h16_3, h16_4, h16_7, h16_10, h16_12, h16_13, h16_15, h16_17]
                      · rfl
                      · trivial
                  · intro ss T17 L17 hI
                    simp only [h16_3, h16_4, h16_7, h16_10, h16_12, h16_13, h16_15, h16_17] at hI 
                    obtain ⟨h17_107, h17_3, h17_4, h17_7, h17_10, h17_12, h17_13, h17_15, h17_17, hL17, hinv⟩ := hI
                    replace hL17 := hL17.symm
                    subst hL17
                    clear h16_3 h16_4 h16_7 h16_10 h16_12 h16_13 h16_15 h16_17 T16
                    refine RX.live [3, 4, 7, 10, 12, 13, 15, 17, 107] (fun T18 hT18 => ?_)
                    simp only [forall_mem_cons', forall_mem_nil', go_sem, Φa, hP, h17_107, h17_3, h17_4, h17_7, h17_10, h17_12, h17_13, h17_15, h17_17] at hT18
                    obtain ⟨h18_3, h18_4, h18_7, h18_10, h18_12, h18_13, h18_15, h18_17, h18_107⟩ := hT18
                    clear h17_107 h17_3 h17_4 h17_7 h17_10 h17_12 h17_13 h17_15 h17_17 T17
                    refine RX.join 5 (fun (ss : Unit) T L' => T 112 = .bool (decide (((nextG g).1.op : Int) = 28) || decide (((nextG g).1.op : Int) = 20) || decide (((nextG g).1.op : Int) = 31)) ∧ T 3 = T18 3 ∧ T 4 = T18 4 ∧ T 7 = T18 7 ∧ T 12 = T18 12 ∧ T 13 = T18 13 ∧ T 15 = T18 15 ∧ T 17 = T18 17 ∧ L' = some (b17, .cells (f2.cells (.slice Bf f2.bs.length ef)).toArray 40 (0, 0)) :: some (b15, .cells w.cells.toArray 50 (0, 0)) :: some (b12, .cells ((stepG g f d).1.cells (.slice A0st (stepG g f d).1.st.length c0st) (.slice A0pg (stepG g f d).1.pg.length c0pg) (.slice A0mm (stepG g f d).1.mm.length c0mm)).toArray 29 (0, 0)) :: n1 :: n2 :: n3 :: some (b10, .cells (nextG g).1.cells.toArray 45 (0, 0)) :: some (b9, .cells e.cells.toArray 50 (0, 0)) :: some (b8, .cells d.cells.toArray 50 (0, 0)) :: some (b2, .cells (hcells d e f2 (.slice Bf f2.bs.length ef)).toArray 52 (0, 0)) :: some (b1, .cells (f.cells (.slice Af f.bs.length cf)).toArray 40 (0, 0)) :: some (b0, .cells (g.cells (.slice As g.st.length cs) (.slice Ap g.pg.length cp) (.slice Am g.mm.length cm)).toArray 29 (0, 0)) :: L ∧ (True)) (fun K33 hK33 => ?_) ?_
                    · simp only [h18_3, h18_4, h18_7, h18_12, h18_13, h18_15, h18_17] at hK33
                      simp (maxSteps:=1000000)(dsimp:=false)(disch:=omega) only [go_sem, Φa, hP, h18_3, h18_4, h18_7, h18_10, h18_12, h18_13, h18_15, h18_17, h18_107, hops]
                      repeat' (first | refine iteB (fun hg => ?_) (fun hg => ?_) | refine iteI (fun hg => ?_) (fun hg => ?_) | ((first | refine ⟨_, Cell.at 6 rfl (show (Ord.cells _)[0]? = some (.int .u8 ((nextG g).1.op : Int)) from rfl), ?_⟩ | refine And.intro (by omega) ?_ | refine ⟨_, Cell.at 0 rfl rfl, ?_⟩ | refine ⟨_, Cell.at 1 rfl rfl, ?_⟩ | refine ⟨_, Cell.at 2 rfl rfl, ?_⟩ | refine ⟨_, Cell.at 3 rfl rfl, ?_⟩ | refine ⟨_, Cell.at 4 rfl rfl, ?_⟩ | refine ⟨_, Cell.at 5 rfl rfl, ?_⟩ | refine ⟨_, Cell.at 6 rfl rfl, ?_⟩ | refine ⟨_, Cell.at 7 rfl rfl, ?_⟩ | refine ⟨_, Cell.at 8 rfl rfl, ?_⟩ | refine ⟨_, Cell.at 9 rfl rfl, ?_⟩ | refine ⟨_, Cell.at 10 rfl rfl, ?_⟩ | refine ⟨_, Cell.at 11 rfl rfl, ?_⟩ | fail); try (with_reducible refine stI ?_); try simp (maxSteps:=1000000)(dsimp:=false)(disch:=omega) only [go_sem, Φa, hP, h18_3, h18_4, h18_7, h18_10, h18_12, h18_13, h18_15, h18_17, h18_107, hops]) | fail)
                      all_goals
                        refine hK33 () _ (some (b17, .cells (f2.cells (.slice Bf f2.bs.length ef)).toArray 40 (0, 0)) :: some (b15, .cells w.cells.toArray 50 (0, 0)) :: some (b12, .cells ((stepG g f d).1.cells (.slice A0st (stepG g f d).1.st.length c0st) (.slice A0pg (stepG g f d).1.pg.length c0pg) (.slice A0mm (stepG g f d).1.mm.length c0mm)).toArray 29 (0, 0)) :: n1 :: n2 :: n3 :: some (b10, .cells (nextG g).1.cells.toArray 45 (0, 0)) :: some (b9, .cells e.cells.toArray 50 (0, 0)) :: some (b8, .cells d.cells.toArray 50 (0, 0)) :: some (b2, .cells (hcells d e f2 (.slice Bf f2.bs.length ef)).toArray 52 (0, 0)) :: some (b1, .cells (f.cells (.slice Af f.bs.length cf)).toArray 40 (0, 0)) :: some (b0, .cells (g.cells (.slice As g.st.length cs) (.slice Ap g.pg.length cp) (.slice Am g.mm.length cm)).toArray 29 (0, 0)) :: L) _ (by first | exact Less.refl _ | exact Less.drop _ _ | exact Less.drops (Less.drop _ _) | exact Less.drops (Less.drops (Less.drop _ _)) | exact Less.drops (Less.drops (Less.drops (Less.drop _ _))) | exact Less.drops (Less.drops (Less.drops (Less.drops (Less.drop _ _))))) ?_
                        try dsimp only
                        refine ⟨?_, ?_, ?_, ?_, ?_, ?_, ?_, ?_, ?_, ?_⟩
                        · simp (maxSteps:=1000000)(dsimp:=false)(disch:=omega) only [go_sem, Φa, hP, h18_3, h18_4, h18_7, h18_10, h18_12, h18_13, h18_15, h18_17, h18_107]
                          first | done | (refine congrArg Value.bool ?_; rw [Bool.eq_iff_iff]; simp only [Bool.or_eq_true,Bool.or_eq_false_iff,Bool.and_eq_true,Bool.and_eq_false_iff,Bool.not_eq_true',Bool.not_eq_false',decide_eq_true_eq,decide_eq_false_iff_not,Bool.true_eq_false,Bool.false_eq_true,true_iff,iff_true] at *; omega) | (refine congrArg Value.bool ?_; simp_all; done)
                        · simp (maxSteps:=1000000)(dsimp:=false)(disch:=omega) only [go_sem, Φa, hP, h18_3, h18_4, h18_7, h18_10, h18_12, h18_13, h18_15, h18_17, h18_107]
                        · simp (maxSteps:=1000000)(dsimp:=false)(disch:=omega) only [go_sem, Φa, hP, h18_3, h18_4, h18_7, h18_10, h18_12, h18_13, h18_15, h18_17, h18_107]
                        · simp (maxSteps:=1000000)(dsimp:=false)(disch:=omega) only [go_sem, Φa, hP, h18_3, h18_4, h18_7, h18_10, h18_12, h18_13, h18_15, h18_17, h18_107]
                        · simp (maxSteps:=1000000)(dsimp:=false)(disch:=omega) only [go_sem, Φa, hP, h18_3, h18_4, h18_7, h18_10, h18_12, h18_13, h18_15, h18_17, h18_107]
                        · simp (maxSteps:=1000000)(dsimp:=false)(disch:=omega) only [go_sem, Φa, hP, h18_3, h18_4, h18_7, h18_10, h18_12, h18_13, h18_15, h18_17, h18_107]
                        · simp (maxSteps:=1000000)(dsimp:=false)(disch:=omega) only [go_sem, Φa, hP, h18_3, h18_4, h18_7, h18_10, h18_12, h18_13, h18_15, h18_17, h18_107]
                        · simp (maxSteps:=1000000)(dsimp:=false)(disch:=omega) only [go_sem, Φa, hP, h18_3, h18_4, h18_7, h18_10, h18_12, h18_13, h18_15, h18_17, h18_107]
                        · rfl
                        · trivial
                    · intro ss T19 L19 hI
                      simp only [h18_3, h18_4, h18_7, h18_12, h18_13, h18_15, h18_17] at hI 
                      obtain ⟨h19_112, h19_3, h19_4, h19_7, h19_12, h19_13, h19_15, h19_17, hL19, hinv⟩ := hI
                      replace hL19 := hL19.symm
                      subst hL19
                      clear h18_3 h18_4 h18_7 h18_10 h18_12 h18_13 h18_15 h18_17 h18_107 T18
                      refine RX.done ?_
                      simp (maxSteps:=1000000)(dsimp:=false)(disch:=omega) only [go_sem, Φa, hP, h19_112, h19_3, h19_4, h19_7, h19_12, h19_13, h19_15, h19_17, hops]
                      refine hK31 _ _ ?_
                      try clear hK31 K31
                      refine SX.cond_k fun X34 Y34 hX34 hY34 => ?_
                      simp (maxSteps:=1000000)(dsimp:=false)(disch:=omega) only [go_sem, Φa, hP, h19_112, h19_3, h19_4, h19_7, h19_12, h19_13, h19_15, h19_17, condVC]
                      refine ⟨fun hc112 => hX34 ?_, fun hc112 => hY34 ?_⟩
                      · clear hX34 hY34 X34 Y34
                        refine SX.region_d [some 113, none] rfl (fun ops hops => ?_)
                        unfold Dsts at hops
                        simp (maxSteps:=1000000)(dsimp:=false)(disch:=omega) only [go_sem, Φa, hP, h19_112, h19_3, h19_4, h19_7, h19_12, h19_13, h19_15, h19_17, hops]
                        refine ⟨_, Cell.at 10 rfl rfl, ?_⟩
                        try with_reducible refine stI ?_
                        try simp (maxSteps:=1000000)(dsimp:=false)(disch:=omega) only [go_sem, Φa, hP, h19_112, h19_3, h19_4, h19_7, h19_12, h19_13, h19_15, h19_17, hops]
                        refine ⟨_, Cell.at 10 rfl rfl, ?_⟩
                        try with_reducible refine stI ?_
                        try simp (maxSteps:=1000000)(dsimp:=false)(disch:=omega) only [go_sem, Φa, hP, h19_112, h19_3, h19_4, h19_7, h19_12, h19_13, h19_15, h19_17, hops]
                        refine ⟨_, Cell.at 10 rfl rfl, ?_⟩
                        try with_reducible refine stI ?_
                        try simp (maxSteps:=1000000)(dsimp:=false)(disch:=omega) only [go_sem, Φa, hP, h19_112, h19_3, h19_4, h19_7, h19_12, h19_13, h19_15, h19_17, hops]
                        refine ⟨_, Cell.at 10 rfl rfl, ?_⟩
                        try with_reducible refine stI ?_
                        try simp (maxSteps:=1000000)(dsimp:=false)(disch:=omega) only [go_sem, Φa, hP, h19_112, h19_3, h19_4, h19_7, h19_12, h19_13, h19_15, h19_17, hops]
                        refine ⟨_, Cell.at 10 rfl rfl, ?_⟩
                        try with_reducible refine stI ?_
                        try simp (maxSteps:=1000000)(dsimp:=false)(disch:=omega) only [go_sem, Φa, hP, h19_112, h19_3, h19_4, h19_7, h19_12, h19_13, h19_15, h19_17, hops]
                        refine ⟨_, Cell.at 10 rfl rfl, ?_⟩
                        try with_reducible refine stI ?_
                        try simp (maxSteps:=1000000)(dsimp:=false)(disch:=omega) only [go_sem, Φa, hP, h19_112, h19_3, h19_4, h19_7, h19_12, h19_13, h19_15, h19_17, hops]
                        refine ⟨_, Cell.at 10 rfl rfl, ?_⟩
                        try with_reducible refine stI ?_
                        try simp (maxSteps:=1000000)(dsimp:=false)(disch:=omega) only [go_sem, Φa, hP, h19_112, h19_3, h19_4, h19_7, h19_12, h19_13, h19_15, h19_17, hops]
                        refine ⟨_, Cell.at 10 rfl rfl, ?_⟩
                        try with_reducible refine stI ?_
                        try simp (maxSteps:=1000000)(dsimp:=false)(disch:=omega) only [go_sem, Φa, hP, h19_112, h19_3, h19_4, h19_7, h19_12, h19_13, h19_15, h19_17, hops]
                        refine ⟨_, Cell.at 10 rfl rfl, ?_⟩
                        try with_reducible refine stI ?_
                        try simp (maxSteps:=1000000)(dsimp:=false)(disch:=omega) only [go_sem, Φa, hP, h19_112, h19_3, h19_4, h19_7, h19_12, h19_13, h19_15, h19_17, hops]
                        refine ⟨_, Cell.at 10 rfl rfl, ?_⟩
                        try with_reducible refine stI ?_
                        try simp (maxSteps:=1000000)(dsimp:=false)(disch:=omega) only [go_sem, Φa, hP, h19_112, h19_3, h19_4, h19_7, h19_12, h19_13, h19_15, h19_17, hops]
                        refine ⟨_, Cell.at 10 rfl rfl, ?_⟩
                        try with_reducible refine stI ?_
                        try simp (maxSteps:=1000000)(dsimp:=false)(disch:=omega) only [go_sem, Φa, hP, h19_112, h19_3, h19_4, h19_7, h19_12, h19_13, h19_15, h19_17, hops]
                        refine ⟨_, Cell.at 10 rfl rfl, ?_⟩
                        try with_reducible refine stI ?_
                        try simp (maxSteps:=1000000)(dsimp:=false)(disch:=omega) only [go_sem, Φa, hP, h19_112, h19_3, h19_4, h19_7, h19_12, h19_13, h19_15, h19_17, hops]
                        refine ⟨_, Cell.at 10 rfl rfl, ?_⟩
                        try with_reducible refine stI ?_
                        try simp (maxSteps:=1000000)(dsimp:=false)(disch:=omega) only [go_sem, Φa, hP, h19_112, h19_3, h19_4, h19_7, h19_12, h19_13, h19_15, h19_17, hops]
                        refine ⟨_, Cell.at 10 rfl rfl, ?_⟩
                        try with_reducible refine stI ?_
                        try simp (maxSteps:=1000000)(dsimp:=false)(disch:=omega) only [go_sem, Φa, hP, h19_112, h19_3, h19_4, h19_7, h19_12, h19_13, h19_15, h19_17, hops]
                        refine ⟨_, Cell.at 10 rfl rfl, ?_⟩
                        try with_reducible refine stI ?_
                        try simp (maxSteps:=1000000)(dsimp:=false)(disch:=omega) only [go_sem, Φa, hP, h19_112, h19_3, h19_4, h19_7, h19_12, h19_13, h19_15, h19_17, hops]
                        refine ⟨_, Cell.at 10 rfl rfl, ?_⟩
                        try with_reducible refine stI ?_
                        try simp (maxSteps:=1000000)(dsimp:=false)(disch:=omega) only [go_sem, Φa, hP, h19_112, h19_3, h19_4, h19_7, h19_12, h19_13, h19_15, h19_17, hops]
                        refine ⟨_, Cell.at 10 rfl rfl, ?_⟩
                        try with_reducible refine stI ?_
                        try simp (maxSteps:=1000000)(dsimp:=false)(disch:=omega) only [go_sem, Φa, hP, h19_112, h19_3, h19_4, h19_7, h19_12, h19_13, h19_15, h19_17, hops]
                        refine ⟨_, Cell.at 10 rfl rfl, ?_⟩
                        try with_reducible refine stI ?_
                        try simp (maxSteps:=1000000)(dsimp:=false)(disch:=omega) only [go_sem, Φa, hP, h19_112, h19_3, h19_4, h19_7, h19_12, h19_13, h19_15, h19_17, hops]
                        refine ⟨0, _, _, _, rfl, (by simp [Fnt.cells]), .inr (by decide), ?_⟩
                        try with_reducible refine stI ?_
                        try simp (maxSteps:=1000000)(dsimp:=false)(disch:=omega) only [go_sem, Φa, hP, h19_112, h19_3, h19_4, h19_7, h19_12, h19_13, h19_15, h19_17, hops]
                        refine hK30 (f, Af, cf) _ (some (b17, .cells (f.cells (.slice Af f.bs.length cf)).toArray 40 (0, 0)) :: some (b15, .cells w.cells.toArray 50 (0, 0)) :: some (b12, .cells ((stepG g f d).1.cells (.slice A0st (stepG g f d).1.st.length c0st) (.slice A0pg (stepG g f d).1.pg.length c0pg) (.slice A0mm (stepG g f d).1.mm.length c0mm)).toArray 29 (0, 0)) :: n1 :: n2 :: n3 :: some (b10, .cells (nextG g).1.cells.toArray 45 (0, 0)) :: some (b9, .cells e.cells.toArray 50 (0, 0)) :: some (b8, .cells d.cells.toArray 50 (0, 0)) :: some (b2, .cells (hcells d e f2 (.slice Bf f2.bs.length ef)).toArray 52 (0, 0)) :: some (b1, .cells (f.cells (.slice Af f.bs.length cf)).toArray 40 (0, 0)) :: some (b0, .cells (g.cells (.slice As g.st.length cs) (.slice Ap g.pg.length cp) (.slice Am g.mm.length cm)).toArray 29 (0, 0)) :: L) _ (by first | exact Less.refl _ | exact Less.drop _ _ | exact Less.drops (Less.drop _ _) | exact Less.drops (Less.drops (Less.drop _ _)) | exact Less.drops (Less.drops (Less.drops (Less.drop _ _))) | exact Less.drops (Less.drops (Less.drops (Less.drops (Less.drop _ _))))) ?_
                        try dsimp only
                        refine ⟨?_, ?_, ?_, ?_, ?_, ?_, ?_, ?_⟩
                        · simp (maxSteps:=1000000)(dsimp:=false)(disch:=omega) only [go_sem, Φa, hP, h19_112, h19_3, h19_4, h19_7, h19_12, h19_13, h19_15, h19_17]
                        · simp (maxSteps:=1000000)(dsimp:=false)(disch:=omega) only [go_sem, Φa, hP, h19_112, h19_3, h19_4, h19_7, h19_12, h19_13, h19_15, h19_17]
                        · simp (maxSteps:=1000000)(dsimp:=false)(disch:=omega) only [go_sem, Φa, hP, h19_112, h19_3, h19_4, h19_7, h19_12, h19_13, h19_15, h19_17]
                        · simp (maxSteps:=1000000)(dsimp:=false)(disch:=omega) only [go_sem, Φa, hP, h19_112, h19_3, h19_4, h19_7, h19_12, h19_13, h19_15, h19_17]
                        · simp (maxSteps:=1000000)(dsimp:=false)(disch:=omega) only [go_sem, Φa, hP, h19_112, h19_3, h19_4, h19_7, h19_12, h19_13, h19_15, h19_17]
                        · simp (maxSteps:=1000000)(dsimp:=false)(disch:=omega) only [go_sem, Φa, hP, h19_112, h19_3, h19_4, h19_7, h19_12, h19_13, h19_15, h19_17]
                        · rfl
                        · exact ⟨hF, hf, hs4, fun _ => rfl⟩
                      · clear hX34 hY34 X34 Y34
                        refine SX.skip ?_
                        try simp only [andThen_normal, andThen_ret, andThen_exit, inBlk_normal, inBlk_ret, inBlk_exit, Nat.reduceEqDiff, if_true, if_false, ↓reduceIte]
                        refine hK30 (f2, Bf, ef) _ (some (b17, .cells (f2.cells (.slice Bf f2.bs.length ef)).toArray 40 (0, 0)) :: some (b15, .cells w.cells.toArray 50 (0, 0)) :: some (b12, .cells ((stepG g f d).1.cells (.slice A0st (stepG g f d).1.st.length c0st) (.slice A0pg (stepG g f d).1.pg.length c0pg) (.slice A0mm (stepG g f d).1.mm.length c0mm)).toArray 29 (0, 0)) :: n1 :: n2 :: n3 :: some (b10, .cells (nextG g).1.cells.toArray 45 (0, 0)) :: some (b9, .cells e.cells.toArray 50 (0, 0)) :: some (b8, .cells d.cells.toArray 50 (0, 0)) :: some (b2, .cells (hcells d e f2 (.slice Bf f2.bs.length ef)).toArray 52 (0, 0)) :: some (b1, .cells (f.cells (.slice Af f.bs.length cf)).toArray 40 (0, 0)) :: some (b0, .cells (g.cells (.slice As g.st.length cs) (.slice Ap g.pg.length cp) (.slice Am g.mm.length cm)).toArray 29 (0, 0)) :: L) _ (by first | exact Less.refl _ | exact Less.drop _ _ | exact Less.drops (Less.drop _ _) | exact Less.drops (Less.drops (Less.drop _ _)) | exact Less.drops (Less.drops (Less.drops (Less.drop _ _))) | exact Less.drops (Less.drops (Less.drops (Less.drops (Less.drop _ _))))) ?_
                        try dsimp only
                        refine ⟨?_, ?_, ?_, ?_, ?_, ?_, ?_, ?_⟩
                        · simp (maxSteps:=1000000)(dsimp:=false)(disch:=omega) only [go_sem, Φa, hP, h19_112, h19_3, h19_4, h19_7, h19_12, h19_13, h19_15, h19_17]
                        · simp (maxSteps:=1000000)(dsimp:=false)(disch:=omega) only [go_sem, Φa, hP, h19_112, h19_3, h19_4, h19_7, h19_12, h19_13, h19_15, h19_17]
                        · simp (maxSteps:=1000000)(dsimp:=false)(disch:=omega) only [go_sem, Φa, hP, h19_112, h19_3, h19_4, h19_7, h19_12, h19_13, h19_15, h19_17]
                        · simp (maxSteps:=1000000)(dsimp:=false)(disch:=omega) only [go_sem, Φa, hP, h19_112, h19_3, h19_4, h19_7, h19_12, h19_13, h19_15, h19_17]
                        · simp (maxSteps:=1000000)(dsimp:=false)(disch:=omega) only [go_sem, Φa, hP, h19_112, h19_3, h19_4, h19_7, h19_12, h19_13, h19_15, h19_17]
                        · simp (maxSteps:=1000000)(dsimp:=false)(disch:=omega) only [go_sem, Φa, hP, h19_112, h19_3, h19_4, h19_7, h19_12, h19_13, h19_15, h19_17]
                        · rfl
                        · exact ⟨hF2, hf2, hs5, fun h => absurd h (by simp at hc112; omega)⟩
                · intro ss T20 L20 hI
                  obtain ⟨ff, Cf, cc⟩ := ss
                  try dsimp only at hI 
                  simp only [h15_3, h15_7, h15_12, h15_13, h15_15, h15_17] at hI 
                  obtain ⟨h20_3, h20_7, h20_12, h20_13, h20_15, h20_17, hL20, ⟨hff, hfs, hfl, hfe⟩⟩ := hI
                  replace hL20 := hL20.symm
                  subst hL20
                  clear h15_3 h15_4 h15_7 h15_10 h15_12 h15_13 h15_15 h15_17 T15
                  refine SX.seq_k fun K35 hK35 => ?_
                  refine SX.region_d [some 115, some 116, some 117, some 118, some 114, some 119, some 120, some 121, some 18, none, some 19, some 20] rfl (fun ops hops => ?_)
                  unfold Dsts at hops
                  simp (maxSteps:=1000000)(dsimp:=false)(disch:=omega) only [go_sem, Φa, hP, h20_3, h20_7, h20_12, h20_13, h20_15, h20_17, hops]
                  refine ⟨_, Cell.at 11 rfl rfl, ?_⟩
                  try with_reducible refine stI ?_
                  try simp (maxSteps:=1000000)(dsimp:=false)(disch:=omega) only [go_sem, Φa, hP, h20_3, h20_7, h20_12, h20_13, h20_15, h20_17, hops]
                  refine ⟨_, Cell.at 11 rfl rfl, ?_⟩
                  try with_reducible refine stI ?_
                  try simp (maxSteps:=1000000)(dsimp:=false)(disch:=omega) only [go_sem, Φa, hP, h20_3, h20_7, h20_12, h20_13, h20_15, h20_17, hops]
                  refine ⟨_, Cell.at 11 rfl rfl, ?_⟩
                  try with_reducible refine stI ?_
                  try simp (maxSteps:=1000000)(dsimp:=false)(disch:=omega) only [go_sem, Φa, hP, h20_3, h20_7, h20_12, h20_13, h20_15, h20_17, hops]
                  refine ⟨_, Cell.at 11 rfl rfl, ?_⟩
                  try with_reducible refine stI ?_
                  try simp (maxSteps:=1000000)(dsimp:=false)(disch:=omega) only [go_sem, Φa, hP, h20_3, h20_7, h20_12, h20_13, h20_15, h20_17, hops]
                  refine ⟨_, Cell.at 11 rfl rfl, ?_⟩
                  try with_reducible refine stI ?_
                  try simp (maxSteps:=1000000)(dsimp:=false)(disch:=omega) only [go_sem, Φa, hP, h20_3, h20_7, h20_12, h20_13, h20_15, h20_17, hops]
                  refine ⟨_, Cell.at 11 rfl rfl, ?_⟩
                  try with_reducible refine stI ?_
                  try simp (maxSteps:=1000000)(dsimp:=false)(disch:=omega) only [go_sem, Φa, hP, h20_3, h20_7, h20_12, h20_13, h20_15, h20_17, hops]
                  refine ⟨_, Cell.at 11 rfl rfl, ?_⟩
                  try with_reducible refine stI ?_
                  try simp (maxSteps:=1000000)(dsimp:=false)(disch:=omega) only [go_sem, Φa, hP, h20_3, h20_7, h20_12, h20_13, h20_15, h20_17, hops]
                  refine ⟨_, Cell.at 11 rfl rfl, ?_⟩
                  try with_reducible refine stI ?_
                  try simp (maxSteps:=1000000)(dsimp:=false)(disch:=omega) only [go_sem, Φa, hP, h20_3, h20_7, h20_12, h20_13, h20_15, h20_17, hops]
                  refine ⟨_, Cell.at 11 rfl rfl, ?_⟩
                  try with_reducible refine stI ?_
                  try simp (maxSteps:=1000000)(dsimp:=false)(disch:=omega) only [go_sem, Φa, hP, h20_3, h20_7, h20_12, h20_13, h20_15, h20_17, hops]
                  refine ⟨_, Cell.at 11 rfl rfl, ?_⟩
                  try with_reducible refine stI ?_
                  try simp (maxSteps:=1000000)(dsimp:=false)(disch:=omega) only [go_sem, Φa, hP, h20_3, h20_7, h20_12, h20_13, h20_15, h20_17, hops]
                  refine ⟨_, Cell.at 11 rfl rfl, ?_⟩
                  try with_reducible refine stI ?_
                  try simp (maxSteps:=1000000)(dsimp:=false)(disch:=omega) only [go_sem, Φa, hP, h20_3, h20_7, h20_12, h20_13, h20_15, h20_17, hops]
                  refine ⟨_, Cell.at 11 rfl rfl, ?_⟩
                  try with_reducible refine stI ?_
                  try simp (maxSteps:=1000000)(dsimp:=false)(disch:=omega) only [go_sem, Φa, hP, h20_3, h20_7, h20_12, h20_13, h20_15, h20_17, hops]
                  refine ⟨_, Cell.at 11 rfl rfl, ?_⟩
                  try with_reducible refine stI ?_
                  try simp (maxSteps:=1000000)(dsimp:=false)(disch:=omega) only [go_sem, Φa, hP, h20_3, h20_7, h20_12, h20_13, h20_15, h20_17, hops]
                  refine ⟨_, Cell.at 11 rfl rfl, ?_⟩
                  try with_reducible refine stI ?_
                  try simp (maxSteps:=1000000)(dsimp:=false)(disch:=omega) only [go_sem, Φa, hP, h20_3, h20_7, h20_12, h20_13, h20_15, h20_17, hops]
                  refine ⟨_, Cell.at 11 rfl rfl, ?_⟩
                  try with_reducible refine stI ?_
                  try simp (maxSteps:=1000000)(dsimp:=false)(disch:=omega) only [go_sem, Φa, hP, h20_3, h20_7, h20_12, h20_13, h20_15, h20_17, hops]
                  refine ⟨_, Cell.at 11 rfl rfl, ?_⟩
                  try with_reducible refine stI ?_
                  try simp (maxSteps:=1000000)(dsimp:=false)(disch:=omega) only [go_sem, Φa, hP, h20_3, h20_7, h20_12, h20_13, h20_15, h20_17, hops]
                  refine ⟨_, Cell.at 11 rfl rfl, ?_⟩
                  try with_reducible refine stI ?_
                  try simp (maxSteps:=1000000)(dsimp:=false)(disch:=omega) only [go_sem, Φa, hP, h20_3, h20_7, h20_12, h20_13, h20_15, h20_17, hops]
                  refine ⟨_, Cell.at 11 rfl rfl, ?_⟩
                  try with_reducible refine stI ?_
                  try simp (maxSteps:=1000000)(dsimp:=false)(disch:=omega) only [go_sem, Φa, hP, h20_3, h20_7, h20_12, h20_13, h20_15, h20_17, hops]
                  refine ⟨_, Cell.at 11 rfl rfl, ?_⟩
                  try with_reducible refine stI ?_
                  try simp (maxSteps:=1000000)(dsimp:=false)(disch:=omega) only [go_sem, Φa, hP, h20_3, h20_7, h20_12, h20_13, h20_15, h20_17, hops]
                  refine ⟨_, Cell.at 11 rfl rfl, ?_⟩
                  try with_reducible refine stI ?_
                  try simp (maxSteps:=1000000)(dsimp:=false)(disch:=omega) only [go_sem, Φa, hP, h20_3, h20_7, h20_12, h20_13, h20_15, h20_17, hops]
                  refine ⟨_, Cell.at 11 rfl rfl, ?_⟩
                  try with_reducible refine stI ?_
                  try simp (maxSteps:=1000000)(dsimp:=false)(disch:=omega) only [go_sem, Φa, hP, h20_3, h20_7, h20_12, h20_13, h20_15, h20_17, hops]
                  refine ⟨_, Cell.at 11 rfl rfl, ?_⟩
                  try with_reducible refine stI ?_
                  try simp (maxSteps:=1000000)(dsimp:=false)(disch:=omega) only [go_sem, Φa, hP, h20_3, h20_7, h20_12, h20_13, h20_15, h20_17, hops]
                  refine ⟨_, Cell.at 11 rfl rfl, ?_⟩
                  try with_reducible refine stI ?_
                  try simp (maxSteps:=1000000)(dsimp:=false)(disch:=omega) only [go_sem, Φa, hP, h20_3, h20_7, h20_12, h20_13, h20_15, h20_17, hops]
                  refine ⟨_, Cell.at 0 rfl rfl, ?_⟩
                  try with_reducible refine stI ?_
                  try simp (maxSteps:=1000000)(dsimp:=false)(disch:=omega) only [go_sem, Φa, hP, h20_3, h20_7, h20_12, h20_13, h20_15, h20_17, hops]
                  refine ⟨_, Cell.at 0 rfl rfl, ?_⟩
                  try with_reducible refine stI ?_
                  try simp (maxSteps:=1000000)(dsimp:=false)(disch:=omega) only [go_sem, Φa, hP, h20_3, h20_7, h20_12, h20_13, h20_15, h20_17, hops]
                  refine ⟨_, Cell.at 0 rfl rfl, ?_⟩
                  try with_reducible refine stI ?_
                  try simp (maxSteps:=1000000)(dsimp:=false)(disch:=omega) only [go_sem, Φa, hP, h20_3, h20_7, h20_12, h20_13, h20_15, h20_17, hops]
                  refine ⟨_, Cell.at 0 rfl rfl, ?_⟩
                  try with_reducible refine stI ?_
                  try simp (maxSteps:=1000000)(dsimp:=false)(disch:=omega) only [go_sem, Φa, hP, h20_3, h20_7, h20_12, h20_13, h20_15, h20_17, hops]
                  refine ⟨_, Cell.at 0 rfl rfl, ?_⟩
                  try with_reducible refine stI ?_
                  try simp (maxSteps:=1000000)(dsimp:=false)(disch:=omega) only [go_sem, Φa, hP, h20_3, h20_7, h20_12, h20_13, h20_15, h20_17, hops]
                  refine ⟨_, Cell.at 0 rfl rfl, ?_⟩
                  try with_reducible refine stI ?_
                  try simp (maxSteps:=1000000)(dsimp:=false)(disch:=omega) only [go_sem, Φa, hP, h20_3, h20_7, h20_12, h20_13, h20_15, h20_17, hops]
                  refine ⟨_, Cell.at 0 rfl rfl, ?_⟩
                  try with_reducible refine stI ?_
                  try simp (maxSteps:=1000000)(dsimp:=false)(disch:=omega) only [go_sem, Φa, hP, h20_3, h20_7, h20_12, h20_13, h20_15, h20_17, hops]
                  refine ⟨_, Cell.at 0 rfl rfl, ?_⟩
                  try with_reducible refine stI ?_
                  try simp (maxSteps:=1000000)(dsimp:=false)(disch:=omega) only [go_sem, Φa, hP, h20_3, h20_7, h20_12, h20_13, h20_15, h20_17, hops]
                  refine ⟨_, Cell.at 0 rfl rfl, ?_⟩
                  try with_reducible refine stI ?_
                  try simp (maxSteps:=1000000)(dsimp:=false)(disch:=omega) only [go_sem, Φa, hP, h20_3, h20_7, h20_12, h20_13, h20_15, h20_17, hops]
                  refine ⟨_, Cell.at 0 rfl rfl, ?_⟩
                  try with_reducible refine stI ?_
                  try simp (maxSteps:=1000000)(dsimp:=false)(disch:=omega) only [go_sem, Φa, hP, h20_3, h20_7, h20_12, h20_13, h20_15, h20_17, hops]
                  refine ⟨_, Cell.at 0 rfl rfl, ?_⟩
                  try with_reducible refine stI ?_
                  try simp (maxSteps:=1000000)(dsimp:=false)(disch:=omega) only [go_sem, Φa, hP, h20_3, h20_7, h20_12, h20_13, h20_15, h20_17, hops]
                  refine ⟨_, Cell.at 0 rfl rfl, ?_⟩
                  try with_reducible refine stI ?_
                  try simp (maxSteps:=1000000)(dsimp:=false)(disch:=omega) only [go_sem, Φa, hP, h20_3, h20_7, h20_12, h20_13, h20_15, h20_17, hops]
                  refine ⟨_, Cell.at 0 rfl rfl, ?_⟩
                  try with_reducible refine stI ?_
                  try simp (maxSteps:=1000000)(dsimp:=false)(disch:=omega) only [go_sem, Φa, hP, h20_3, h20_7, h20_12, h20_13, h20_15, h20_17, hops]
                  refine ⟨_, Cell.at 0 rfl rfl, ?_⟩
                  try with_reducible refine stI ?_
                  try simp (maxSteps:=1000000)(dsimp:=false)(disch:=omega) only [go_sem, Φa, hP, h20_3, h20_7, h20_12, h20_13, h20_15, h20_17, hops]
                  refine ⟨_, Cell.at 0 rfl rfl, ?_⟩
                  try with_reducible refine stI ?_
                  try simp (maxSteps:=1000000)(dsimp:=false)(disch:=omega) only [go_sem, Φa, hP, h20_3, h20_7, h20_12, h20_13, h20_15, h20_17, hops]
                  refine ⟨_, Cell.at 0 rfl rfl, ?_⟩
                  try with_reducible refine stI ?_
                  try simp (maxSteps:=1000000)(dsimp:=false)(disch:=omega) only [go_sem, Φa, hP, h20_3, h20_7, h20_12, h20_13, h20_15, h20_17, hops]
                  refine ⟨_, Cell.at 0 rfl rfl, ?_⟩
                  try with_reducible refine stI ?_
                  try simp (maxSteps:=1000000)(dsimp:=false)(disch:=omega) only [go_sem, Φa, hP, h20_3, h20_7, h20_12, h20_13, h20_15, h20_17, hops]
                  refine ⟨_, Cell.at 0 rfl rfl, ?_⟩
                  try with_reducible refine stI ?_
                  try simp (maxSteps:=1000000)(dsimp:=false)(disch:=omega) only [go_sem, Φa, hP, h20_3, h20_7, h20_12, h20_13, h20_15, h20_17, hops]
                  refine ⟨_, Cell.at 1 rfl rfl, ?_⟩
                  try with_reducible refine stI ?_
                  try simp (maxSteps:=1000000)(dsimp:=false)(disch:=omega) only [go_sem, Φa, hP, h20_3, h20_7, h20_12, h20_13, h20_15, h20_17, hops]
                  refine ⟨_, Cell.at 1 rfl rfl, ?_⟩
                  try with_reducible refine stI ?_
                  try simp (maxSteps:=1000000)(dsimp:=false)(disch:=omega) only [go_sem, Φa, hP, h20_3, h20_7, h20_12, h20_13, h20_15, h20_17, hops]
                  refine ⟨_, Cell.at 1 rfl rfl, ?_⟩
                  try with_reducible refine stI ?_
                  try simp (maxSteps:=1000000)(dsimp:=false)(disch:=omega) only [go_sem, Φa, hP, h20_3, h20_7, h20_12, h20_13, h20_15, h20_17, hops]
                  refine SCall.mono (Step_spec (g := g) (f := ff) (d := w) hP hg hff hw1 (SlI.any hs) (SlI.any hp) (SlI.any hm) (SlI.any hfs) (by omega) (by omega) (by omega) (by omega)) ?_
                  rintro v_ L_ ⟨sv1, pv1, mv1, m1, m2, m3, rfl, rfl, hr1⟩
                  obtain ⟨A1st, c1st, rfl, hc1st⟩ := rowShape hr1.st
                  obtain ⟨A1pg, c1pg, rfl, hc1pg⟩ := rowShape hr1.pg
                  obtain ⟨A1mm, c1mm, rfl, hc1mm⟩ := rowShape hr1.mm
                  unfold GM.cells
                  try with_reducible refine stI ?_
                  try simp (maxSteps:=1000000)(dsimp:=false)(disch:=omega) only [go_sem, Φa, hP, h20_3, h20_7, h20_12, h20_13, h20_15, h20_17, hops]
                  intro b18
                  try with_reducible refine stI ?_
                  try simp (maxSteps:=1000000)(dsimp:=false)(disch:=omega) only [go_sem, Φa, hP, h20_3, h20_7, h20_12, h20_13, h20_15, h20_17, hops]
                  refine ⟨0, _, _, _, rfl, by decide, .inr (by decide), ?_⟩
                  try with_reducible refine stI ?_
                  try simp (maxSteps:=1000000)(dsimp:=false)(disch:=omega) only [go_sem, Φa, hP, h20_3, h20_7, h20_12, h20_13, h20_15, h20_17, hops]
                  refine hK35 _ _ ?_
                  try clear hK35 K35
                  refine SX.live [7, 12, 13, 18, 19, 20] (fun T21 hT21 => ?_)
                  simp only [forall_mem_cons', forall_mem_nil', go_sem, Φa, hP, h20_3, h20_7, h20_12, h20_13, h20_15, h20_17] at hT21
                  obtain ⟨h21_7, h21_12, h21_13, h21_18, h21_19, h21_20⟩ := hT21
                  clear h20_3 h20_7 h20_12 h20_13 h20_15 h20_17 T20
                  refine SX.seq_k fun K36 hK36 => ?_
                  refine SX.seq_k fun K37 hK37 => ?_
                  refine SX.region_d [some 122, some 123] rfl (fun ops hops => ?_)
                  unfold Dsts at hops
                  simp (maxSteps:=1000000)(dsimp:=false)(disch:=omega) only [go_sem, Φa, hP, h21_7, h21_12, h21_13, h21_18, h21_19, h21_20, hops]
                  repeat' ((first | refine And.intro (by omega) ?_ | fail); try (with_reducible refine stI ?_); try simp (maxSteps:=1000000)(dsimp:=false)(disch:=omega) only [go_sem, Φa, hP, h21_7, h21_12, h21_13, h21_18, h21_19, h21_20, hops])
                  refine hK37 _ _ ?_
                  try clear hK37 K37
                  refine SX.cond_k fun X38 Y38 hX38 hY38 => ?_
                  simp (maxSteps:=1000000)(dsimp:=false)(disch:=omega) only [go_sem, Φa, hP, h21_7, h21_12, h21_13, h21_18, h21_19, h21_20, condVC]
                  refine ⟨fun hc123 => hX38 ?_, fun hc123 => hY38 ?_⟩
                  · clear hX38 hY38 X38 Y38
                    refine SX.seq_k fun K39 hK39 => ?_
                    refine SX.region_xd [some 124, some 125, some 126, some 127, some 128, some 6] rfl (fun ops hops => ?_)
                    unfold Dsts at hops
                    refine RX.live [7, 20] (fun T22 hT22 => ?_)
                    simp only [forall_mem_cons', forall_mem_nil', go_sem, Φa, hP, h21_7, h21_12, h21_13, h21_18, h21_19, h21_20] at hT22
                    obtain ⟨h22_7, h22_20⟩ := hT22
                    clear h21_7 h21_12 h21_13 h21_18 h21_19 h21_20 T21
                    have hbad := stepG_err hc0 (f := ff) (d := w) (by simpa using hc123)
                    have e1 : (stepG g ff w).2.2 = 1 := by rw [hbad]
                    refine RX.join 5 (fun (ss : Unit) T L' => T 128 = .bool (true) ∧ L' = some (b18, .cells ((stepG g ff w).1.cells (.slice A1st (stepG g ff w).1.st.length c1st) (.slice A1pg (stepG g ff w).1.pg.length c1pg) (.slice A1mm (stepG g ff w).1.mm.length c1mm)).toArray 29 (0, 0)) :: m1 :: m2 :: m3 :: some (b17, .cells (ff.cells (.slice Cf ff.bs.length cc)).toArray 40 (0, 0)) :: some (b15, .cells w.cells.toArray 50 (0, 0)) :: some (b12, .cells ((stepG g f d).1.cells (.slice A0st (stepG g f d).1.st.length c0st) (.slice A0pg (stepG g f d).1.pg.length c0pg) (.slice A0mm (stepG g f d).1.mm.length c0mm)).toArray 29 (0, 0)) :: n1 :: n2 :: n3 :: some (b10, .cells (nextG g).1.cells.toArray 45 (0, 0)) :: some (b9, .cells e.cells.toArray 50 (0, 0)) :: some (b8, .cells d.cells.toArray 50 (0, 0)) :: some (b2, .cells (hcells d e f2 (.slice Bf f2.bs.length ef)).toArray 52 (0, 0)) :: some (b1, .cells (f.cells (.slice Af f.bs.length cf)).toArray 40 (0, 0)) :: some (b0, .cells (g.cells (.slice As g.st.length cs) (.slice Ap g.pg.length cp) (.slice Am g.mm.length cm)).toArray 29 (0, 0)) :: L ∧ (True)) (fun K40 hK40 => ?_) ?_
                    · simp (maxSteps:=1000000)(dsimp:=false)(disch:=omega) only [go_sem, Φa, hP, h22_7, h22_20, hops]
                      repeat' (first | refine iteB (fun hg => ?_) (fun hg => ?_) | refine iteI (fun hg => ?_) (fun hg => ?_) | ((first | refine And.intro (by omega) ?_ | refine ⟨_, Cell.at 0 rfl rfl, ?_⟩ | refine ⟨_, Cell.at 1 rfl rfl, ?_⟩ | refine ⟨_, Cell.at 2 rfl rfl, ?_⟩ | refine ⟨_, Cell.at 3 rfl rfl, ?_⟩ | refine ⟨_, Cell.at 4 rfl rfl, ?_⟩ | refine ⟨_, Cell.at 5 rfl rfl, ?_⟩ | refine ⟨_, Cell.at 6 rfl rfl, ?_⟩ | refine ⟨_, Cell.at 7 rfl rfl, ?_⟩ | refine ⟨_, Cell.at 8 rfl rfl, ?_⟩ | refine ⟨_, Cell.at 9 rfl rfl, ?_⟩ | refine ⟨_, Cell.at 10 rfl rfl, ?_⟩ | refine ⟨_, Cell.at 11 rfl rfl, ?_⟩ | refine ⟨_, Cell.at 12 rfl rfl, ?_⟩ | refine ⟨_, Cell.at 13 rfl rfl, ?_⟩ | refine ⟨_, Cell.at 14 rfl rfl, ?_⟩ | refine ⟨_, Cell.at 15 rfl rfl, ?_⟩ | fail); try (with_reducible refine stI ?_); try simp (maxSteps:=1000000)(dsimp:=false)(disch:=omega) only [go_sem, Φa, hP, h22_7, h22_20, hops]) | fail)
                      all_goals
                        refine hK40 () _ (some (b18, .cells ((stepG g ff w).1.cells (.slice A1st (stepG g ff w).1.st.length c1st) (.slice A1pg (stepG g ff w).1.pg.length c1pg) (.slice A1mm (stepG g ff w).1.mm.length c1mm)).toArray 29 (0, 0)) :: m1 :: m2 :: m3 :: some (b17, .cells (ff.cells (.slice Cf ff.bs.length cc)).toArray 40 (0, 0)) :: some (b15, .cells w.cells.toArray 50 (0, 0)) :: some (b12, .cells ((stepG g f d).1.cells (.slice A0st (stepG g f d).1.st.length c0st) (.slice A0pg (stepG g f d).1.pg.length c0pg) (.slice A0mm (stepG g f d).1.mm.length c0mm)).toArray 29 (0, 0)) :: n1 :: n2 :: n3 :: some (b10, .cells (nextG g).1.cells.toArray 45 (0, 0)) :: some (b9, .cells e.cells.toArray 50 (0, 0)) :: some (b8, .cells d.cells.toArray 50 (0, 0)) :: some (b2, .cells (hcells d e f2 (.slice Bf f2.bs.length ef)).toArray 52 (0, 0)) :: some (b1, .cells (f.cells (.slice Af f.bs.length cf)).toArray 40 (0, 0)) :: some (b0, .cells (g.cells (.slice As g.st.length cs) (.slice Ap g.pg.length cp) (.slice Am g.mm.length cm)).toArray 29 (0, 0)) :: L) _ (by first | exact Less.refl _ | exact Less.drop _ _ | exact Less.drops (Less.drop _ _) | exact Less.drops (Less.drops (Less.drop _ _)) | exact Less.drops (Less.drops (Less.drops (Less.drop _ _))) | exact Less.drops (Less.drops (Less.drops (Less.drops (Less.drop _ _))))) ?_
                        try dsimp only
                        refine ⟨?_, ?_, ?_⟩
                        · simp (maxSteps:=1000000)(dsimp:=false)(disch:=omega) only [go_sem, Φa, hP, h22_7, h22_20]
                          first | done | (refine congrArg Value.bool ?_; simp_all; done)
                        · rfl
                        · trivial
                    · intro ss T23 L23 hI
                      obtain ⟨h23_128, hL23, hinv⟩ := hI
                      replace hL23 := hL23.symm
                      subst hL23
                      clear h22_7 h22_20 T22
                      refine RX.done ?_
                      simp (maxSteps:=1000000)(dsimp:=false)(disch:=omega) only [go_sem, Φa, hP, h23_128, hops]
                      refine hK39 _ _ ?_
                      try clear hK39 K39
                      refine SX.ret ?_
                      simp only [andThen_normal, andThen_ret, andThen_exit, inBlk_normal, inBlk_ret, inBlk_exit, Nat.reduceEqDiff, if_true, if_false, ↓reduceIte, retQ_ret]
                      try simp only [res0, res1, res2, res3, stK_e, go_sem, Φa, hP, h23_128]
                      exact ⟨_, _, Less.tail [_, _, _, _, _, _, _, _, _, _, _, _, _, _, _, _] _, rfl, rfl, rfl⟩
                  · clear hX38 hY38 X38 Y38
                    refine SX.skip ?_
                    try simp only [andThen_normal, andThen_ret, andThen_exit, inBlk_normal, inBlk_ret, inBlk_exit, Nat.reduceEqDiff, if_true, if_false, ↓reduceIte]
                    refine hK36 _ _ ?_
                    try clear hK36 K36
                    refine SX.seq_k fun K41 hK41 => ?_
                    have he0 : (stepG g ff w).2.2 = 0 := by simpa using hc123
                    have heq := step_alike hA1 hA2 he0 ⟨hw2, hw3, hw4, hfe⟩
                    have hfn := hfine.step hF hd hA1
                    have w1 := hfn.st
                    refine SX.region_d [some 129, some 130, some 131, some 21] rfl (fun ops hops => ?_)
                    unfold Dsts at hops
                    simp (maxSteps:=1000000)(dsimp:=false)(disch:=omega) only [go_sem, Φa, hP, h21_7, h21_12, h21_13, h21_18, h21_19, h21_20, hops]
                    refine ⟨_, Cell.at 6 rfl rfl, ?_⟩
                    try with_reducible refine stI ?_
                    try simp (maxSteps:=1000000)(dsimp:=false)(disch:=omega) only [go_sem, Φa, hP, h21_7, h21_12, h21_13, h21_18, h21_19, h21_20, hops]
                    refine ⟨_, Cell.at 6 rfl rfl, ?_⟩
                    try with_reducible refine stI ?_
                    try simp (maxSteps:=1000000)(dsimp:=false)(disch:=omega) only [go_sem, Φa, hP, h21_7, h21_12, h21_13, h21_18, h21_19, h21_20, hops]
                    refine ⟨_, Cell.at 6 rfl rfl, ?_⟩
                    try with_reducible refine stI ?_
                    try simp (maxSteps:=1000000)(dsimp:=false)(disch:=omega) only [go_sem, Φa, hP, h21_7, h21_12, h21_13, h21_18, h21_19, h21_20, hops]
                    refine ⟨_, Cell.at 6 rfl rfl, ?_⟩
                    try with_reducible refine stI ?_
                    try simp (maxSteps:=1000000)(dsimp:=false)(disch:=omega) only [go_sem, Φa, hP, h21_7, h21_12, h21_13, h21_18, h21_19, h21_20, hops]
                    refine ⟨_, Cell.at 6 rfl rfl, ?_⟩
                    try with_reducible refine stI ?_
                    try simp (maxSteps:=1000000)(dsimp:=false)(disch:=omega) only [go_sem, Φa, hP, h21_7, h21_12, h21_13, h21_18, h21_19, h21_20, hops]
                    refine ⟨_, Cell.at 6 rfl rfl, ?_⟩
                    try with_reducible refine stI ?_
                    try simp (maxSteps:=1000000)(dsimp:=false)(disch:=omega) only [go_sem, Φa, hP, h21_7, h21_12, h21_13, h21_18, h21_19, h21_20, hops]
                    refine ⟨_, Cell.at 6 rfl rfl, ?_⟩
                    try with_reducible refine stI ?_
                    try simp (maxSteps:=1000000)(dsimp:=false)(disch:=omega) only [go_sem, Φa, hP, h21_7, h21_12, h21_13, h21_18, h21_19, h21_20, hops]
                    refine ⟨_, Cell.at 6 rfl rfl, ?_⟩
                    try with_reducible refine stI ?_
                    try simp (maxSteps:=1000000)(dsimp:=false)(disch:=omega) only [go_sem, Φa, hP, h21_7, h21_12, h21_13, h21_18, h21_19, h21_20, hops]
                    refine ⟨_, Cell.at 6 rfl rfl, ?_⟩
                    try with_reducible refine stI ?_
                    try simp (maxSteps:=1000000)(dsimp:=false)(disch:=omega) only [go_sem, Φa, hP, h21_7, h21_12, h21_13, h21_18, h21_19, h21_20, hops]
                    refine ⟨_, Cell.at 6 rfl rfl, ?_⟩
                    try with_reducible refine stI ?_
                    try simp (maxSteps:=1000000)(dsimp:=false)(disch:=omega) only [go_sem, Φa, hP, h21_7, h21_12, h21_13, h21_18, h21_19, h21_20, hops]
                    refine ⟨_, Cell.at 6 rfl rfl, ?_⟩
                    try with_reducible refine stI ?_
                    try simp (maxSteps:=1000000)(dsimp:=false)(disch:=omega) only [go_sem, Φa, hP, h21_7, h21_12, h21_13, h21_18, h21_19, h21_20, hops]
                    refine ⟨_, Cell.at 6 rfl rfl, ?_⟩
                    try with_reducible refine stI ?_
                    try simp (maxSteps:=1000000)(dsimp:=false)(disch:=omega) only [go_sem, Φa, hP, h21_7, h21_12, h21_13, h21_18, h21_19, h21_20, hops]
                    refine ⟨_, Cell.at 6 rfl rfl, ?_⟩
                    try with_reducible refine stI ?_
                    try simp (maxSteps:=1000000)(dsimp:=false)(disch:=omega) only [go_sem, Φa, hP, h21_7, h21_12, h21_13, h21_18, h21_19, h21_20, hops]
                    refine ⟨_, Cell.at 6 rfl rfl, ?_⟩
                    try with_reducible refine stI ?_
                    try simp (maxSteps:=1000000)(dsimp:=false)(disch:=omega) only [go_sem, Φa, hP, h21_7, h21_12, h21_13, h21_18, h21_19, h21_20, hops]
                    refine ⟨_, Cell.at 6 rfl rfl, ?_⟩
                    try with_reducible refine stI ?_
                    try simp (maxSteps:=1000000)(dsimp:=false)(disch:=omega) only [go_sem, Φa, hP, h21_7, h21_12, h21_13, h21_18, h21_19, h21_20, hops]
                    refine ⟨_, Cell.at 6 rfl rfl, ?_⟩
                    try with_reducible refine stI ?_
                    try simp (maxSteps:=1000000)(dsimp:=false)(disch:=omega) only [go_sem, Φa, hP, h21_7, h21_12, h21_13, h21_18, h21_19, h21_20, hops]
                    refine ⟨_, Cell.at 6 rfl rfl, ?_⟩
                    try with_reducible refine stI ?_
                    try simp (maxSteps:=1000000)(dsimp:=false)(disch:=omega) only [go_sem, Φa, hP, h21_7, h21_12, h21_13, h21_18, h21_19, h21_20, hops]
                    refine ⟨_, Cell.at 6 rfl rfl, ?_⟩
                    try with_reducible refine stI ?_
                    try simp (maxSteps:=1000000)(dsimp:=false)(disch:=omega) only [go_sem, Φa, hP, h21_7, h21_12, h21_13, h21_18, h21_19, h21_20, hops]
                    refine ⟨_, Cell.at 6 rfl rfl, ?_⟩
                    try with_reducible refine stI ?_
                    try simp (maxSteps:=1000000)(dsimp:=false)(disch:=omega) only [go_sem, Φa, hP, h21_7, h21_12, h21_13, h21_18, h21_19, h21_20, hops]
                    refine ⟨_, Cell.at 6 rfl rfl, ?_⟩
                    try with_reducible refine stI ?_
                    try simp (maxSteps:=1000000)(dsimp:=false)(disch:=omega) only [go_sem, Φa, hP, h21_7, h21_12, h21_13, h21_18, h21_19, h21_20, hops]
                    refine ⟨_, Cell.at 6 rfl rfl, ?_⟩
                    try with_reducible refine stI ?_
                    try simp (maxSteps:=1000000)(dsimp:=false)(disch:=omega) only [go_sem, Φa, hP, h21_7, h21_12, h21_13, h21_18, h21_19, h21_20, hops]
                    refine ⟨_, Cell.at 6 rfl rfl, ?_⟩
                    try with_reducible refine stI ?_
                    try simp (maxSteps:=1000000)(dsimp:=false)(disch:=omega) only [go_sem, Φa, hP, h21_7, h21_12, h21_13, h21_18, h21_19, h21_20, hops]
                    refine ⟨_, Cell.at 6 rfl rfl, ?_⟩
                    try with_reducible refine stI ?_
                    try simp (maxSteps:=1000000)(dsimp:=false)(disch:=omega) only [go_sem, Φa, hP, h21_7, h21_12, h21_13, h21_18, h21_19, h21_20, hops]
                    refine ⟨_, Cell.at 0 rfl rfl, ?_⟩
                    try with_reducible refine stI ?_
                    try simp (maxSteps:=1000000)(dsimp:=false)(disch:=omega) only [go_sem, Φa, hP, h21_7, h21_12, h21_13, h21_18, h21_19, h21_20, hops]
                    refine ⟨_, Cell.at 0 rfl rfl, ?_⟩
                    try with_reducible refine stI ?_
                    try simp (maxSteps:=1000000)(dsimp:=false)(disch:=omega) only [go_sem, Φa, hP, h21_7, h21_12, h21_13, h21_18, h21_19, h21_20, hops]
                    refine ⟨_, Cell.at 0 rfl rfl, ?_⟩
                    try with_reducible refine stI ?_
                    try simp (maxSteps:=1000000)(dsimp:=false)(disch:=omega) only [go_sem, Φa, hP, h21_7, h21_12, h21_13, h21_18, h21_19, h21_20, hops]
                    refine ⟨_, Cell.at 0 rfl rfl, ?_⟩
                    try with_reducible refine stI ?_
                    try simp (maxSteps:=1000000)(dsimp:=false)(disch:=omega) only [go_sem, Φa, hP, h21_7, h21_12, h21_13, h21_18, h21_19, h21_20, hops]
                    refine ⟨_, Cell.at 0 rfl rfl, ?_⟩
                    try with_reducible refine stI ?_
                    try simp (maxSteps:=1000000)(dsimp:=false)(disch:=omega) only [go_sem, Φa, hP, h21_7, h21_12, h21_13, h21_18, h21_19, h21_20, hops]
                    refine ⟨_, Cell.at 0 rfl rfl, ?_⟩
                    try with_reducible refine stI ?_
                    try simp (maxSteps:=1000000)(dsimp:=false)(disch:=omega) only [go_sem, Φa, hP, h21_7, h21_12, h21_13, h21_18, h21_19, h21_20, hops]
                    refine ⟨_, Cell.at 0 rfl rfl, ?_⟩
                    try with_reducible refine stI ?_
                    try simp (maxSteps:=1000000)(dsimp:=false)(disch:=omega) only [go_sem, Φa, hP, h21_7, h21_12, h21_13, h21_18, h21_19, h21_20, hops]
                    refine ⟨_, Cell.at 0 rfl rfl, ?_⟩
                    try with_reducible refine stI ?_
                    try simp (maxSteps:=1000000)(dsimp:=false)(disch:=omega) only [go_sem, Φa, hP, h21_7, h21_12, h21_13, h21_18, h21_19, h21_20, hops]
                    refine ⟨_, Cell.at 0 rfl rfl, ?_⟩
                    try with_reducible refine stI ?_
                    try simp (maxSteps:=1000000)(dsimp:=false)(disch:=omega) only [go_sem, Φa, hP, h21_7, h21_12, h21_13, h21_18, h21_19, h21_20, hops]
                    refine ⟨_, Cell.at 0 rfl rfl, ?_⟩
                    try with_reducible refine stI ?_
                    try simp (maxSteps:=1000000)(dsimp:=false)(disch:=omega) only [go_sem, Φa, hP, h21_7, h21_12, h21_13, h21_18, h21_19, h21_20, hops]
                    refine ⟨_, Cell.at 0 rfl rfl, ?_⟩
                    try with_reducible refine stI ?_
                    try simp (maxSteps:=1000000)(dsimp:=false)(disch:=omega) only [go_sem, Φa, hP, h21_7, h21_12, h21_13, h21_18, h21_19, h21_20, hops]
                    refine ⟨_, Cell.at 0 rfl rfl, ?_⟩
                    try with_reducible refine stI ?_
                    try simp (maxSteps:=1000000)(dsimp:=false)(disch:=omega) only [go_sem, Φa, hP, h21_7, h21_12, h21_13, h21_18, h21_19, h21_20, hops]
                    refine ⟨_, Cell.at 0 rfl rfl, ?_⟩
                    try with_reducible refine stI ?_
                    try simp (maxSteps:=1000000)(dsimp:=false)(disch:=omega) only [go_sem, Φa, hP, h21_7, h21_12, h21_13, h21_18, h21_19, h21_20, hops]
                    refine ⟨_, Cell.at 0 rfl rfl, ?_⟩
                    try with_reducible refine stI ?_
                    try simp (maxSteps:=1000000)(dsimp:=false)(disch:=omega) only [go_sem, Φa, hP, h21_7, h21_12, h21_13, h21_18, h21_19, h21_20, hops]
                    refine ⟨_, Cell.at 0 rfl rfl, ?_⟩
                    try with_reducible refine stI ?_
                    try simp (maxSteps:=1000000)(dsimp:=false)(disch:=omega) only [go_sem, Φa, hP, h21_7, h21_12, h21_13, h21_18, h21_19, h21_20, hops]
                    refine ⟨_, Cell.at 0 rfl rfl, ?_⟩
                    try with_reducible refine stI ?_
                    try simp (maxSteps:=1000000)(dsimp:=false)(disch:=omega) only [go_sem, Φa, hP, h21_7, h21_12, h21_13, h21_18, h21_19, h21_20, hops]
                    refine ⟨_, Cell.at 0 rfl rfl, ?_⟩
                    try with_reducible refine stI ?_
                    try simp (maxSteps:=1000000)(dsimp:=false)(disch:=omega) only [go_sem, Φa, hP, h21_7, h21_12, h21_13, h21_18, h21_19, h21_20, hops]
                    refine ⟨_, Cell.at 0 rfl rfl, ?_⟩
                    try with_reducible refine stI ?_
                    try simp (maxSteps:=1000000)(dsimp:=false)(disch:=omega) only [go_sem, Φa, hP, h21_7, h21_12, h21_13, h21_18, h21_19, h21_20, hops]
                    refine ⟨_, Cell.at 0 rfl rfl, ?_⟩
                    try with_reducible refine stI ?_
                    try simp (maxSteps:=1000000)(dsimp:=false)(disch:=omega) only [go_sem, Φa, hP, h21_7, h21_12, h21_13, h21_18, h21_19, h21_20, hops]
                    refine ⟨_, Cell.at 0 rfl rfl, ?_⟩
                    try with_reducible refine stI ?_
                    try simp (maxSteps:=1000000)(dsimp:=false)(disch:=omega) only [go_sem, Φa, hP, h21_7, h21_12, h21_13, h21_18, h21_19, h21_20, hops]
                    refine ⟨_, Cell.at 0 rfl rfl, ?_⟩
                    try with_reducible refine stI ?_
                    try simp (maxSteps:=1000000)(dsimp:=false)(disch:=omega) only [go_sem, Φa, hP, h21_7, h21_12, h21_13, h21_18, h21_19, h21_20, hops]
                    refine ⟨_, Cell.at 0 rfl rfl, ?_⟩
                    try with_reducible refine stI ?_
                    try simp (maxSteps:=1000000)(dsimp:=false)(disch:=omega) only [go_sem, Φa, hP, h21_7, h21_12, h21_13, h21_18, h21_19, h21_20, hops]
                    refine ⟨_, Cell.at 0 rfl rfl, ?_⟩
                    try with_reducible refine stI ?_
                    try simp (maxSteps:=1000000)(dsimp:=false)(disch:=omega) only [go_sem, Φa, hP, h21_7, h21_12, h21_13, h21_18, h21_19, h21_20, hops]
                    first | (refine SCall.mono (Same_spec (a := (stepG g f d).1) (b := (stepG g ff w).1) hP hfn.ok (by rw [heq]; exact hfn.ok) (RowI.sl hr.st (i := 7) rfl) (RowI.sl hr.pg (i := 8) rfl) (RowI.sl hr.mm (i := 9) rfl) (RowI.sl hr1.st (i := 1) rfl) (RowI.sl hr1.pg (i := 2) rfl) (RowI.sl hr1.mm (i := 3) rfl) (by omega) (by rw [heq]; omega)) ?_; rintro v_ L_ ⟨hv_, hL_⟩; rw [hv_, hL_]; clear hv_ hL_ v_ L_) | refine ⟨_, Same_spec (a := (stepG g f d).1) (b := (stepG g ff w).1) hP hfn.ok (by rw [heq]; exact hfn.ok) (RowI.sl hr.st (i := 7) rfl) (RowI.sl hr.pg (i := 8) rfl) (RowI.sl hr.mm (i := 9) rfl) (RowI.sl hr1.st (i := 1) rfl) (RowI.sl hr1.pg (i := 2) rfl) (RowI.sl hr1.mm (i := 3) rfl) (by omega) (by rw [heq]; omega), ?_⟩ | refine ⟨_, fun L0 hl0 => Same_spec (a := (stepG g f d).1) (b := (stepG g ff w).1) hP hfn.ok (by rw [heq]; exact hfn.ok) (RowI.sl hr.st (i := 7) rfl) (RowI.sl hr.pg (i := 8) rfl) (RowI.sl hr.mm (i := 9) rfl) (RowI.sl hr1.st (i := 1) rfl) (RowI.sl hr1.pg (i := 2) rfl) (RowI.sl hr1.mm (i := 3) rfl) (by omega) (by rw [heq]; omega), ?_⟩
                    rw [show sameB (stepG g f d).1 (stepG g ff w).1 = true from by rw [heq]; exact sameB_self _]
                    try with_reducible refine stI ?_
                    try simp (maxSteps:=1000000)(dsimp:=false)(disch:=omega) only [go_sem, Φa, hP, h21_7, h21_12, h21_13, h21_18, h21_19, h21_20, hops]
                    refine hK41 _ _ ?_
                    try clear hK41 K41
                    refine SX.seq_k fun K42 hK42 => ?_
                    refine SX.region_xd [some 132, some 133, some 134, some 135, some 136, some 137, some 138, some 139, some 140, some 6] rfl (fun ops hops => ?_)
                    unfold Dsts at hops
                    refine RX.live [7, 13, 19, 21] (fun T24 hT24 => ?_)
                    simp only [forall_mem_cons', forall_mem_nil', go_sem, Φa, hP, h21_7, h21_12, h21_13, h21_18, h21_19, h21_20] at hT24
                    obtain ⟨h24_7, h24_13, h24_19, h24_21⟩ := hT24
                    clear h21_7 h21_12 h21_13 h21_18 h21_19 h21_20 T21
                    have e1 : (stepG g ff w).2.1 = (stepG g f d).2.1 := by rw [heq]
                    refine RX.join 6 (fun (ss : Unit) T L' => T 137 = .bool (true) ∧ T 21 = T24 21 ∧ L' = some (b18, .cells ((stepG g ff w).1.cells (.slice A1st (stepG g ff w).1.st.length c1st) (.slice A1pg (stepG g ff w).1.pg.length c1pg) (.slice A1mm (stepG g ff w).1.mm.length c1mm)).toArray 29 (0, 0)) :: m1 :: m2 :: m3 :: some (b17, .cells (ff.cells (.slice Cf ff.bs.length cc)).toArray 40 (0, 0)) :: some (b15, .cells w.cells.toArray 50 (0, 0)) :: some (b12, .cells ((stepG g f d).1.cells (.slice A0st (stepG g f d).1.st.length c0st) (.slice A0pg (stepG g f d).1.pg.length c0pg) (.slice A0mm (stepG g f d).1.mm.length c0mm)).toArray 29 (0, 0)) :: n1 :: n2 :: n3 :: some (b10, .cells (nextG g).1.cells.toArray 45 (0, 0)) :: some (b9, .cells e.cells.toArray 50 (0, 0)) :: some (b8, .cells d.cells.toArray 50 (0, 0)) :: some (b2, .cells (hcells d e f2 (.slice Bf f2.bs.length ef)).toArray 52 (0, 0)) :: some (b1, .cells (f.cells (.slice Af f.bs.length cf)).toArray 40 (0, 0)) :: some (b0, .cells (g.cells (.slice As g.st.length cs) (.slice Ap g.pg.length cp) (.slice Am g.mm.length cm)).toArray 29 (0, 0)) :: L ∧ (True)) (fun K43 hK43 => ?_) ?_
                    · simp only [h24_21] at hK43
                      simp (maxSteps:=1000000)(dsimp:=false)(disch:=omega) only [go_sem, Φa, hP, h24_7, h24_13, h24_19, h24_21, hops]
                      repeat' (first | refine iteB (fun hg => ?_) (fun hg => ?_) | refine iteI (fun hg => ?_) (fun hg => ?_) | ((first | refine And.intro (by omega) ?_ | refine ⟨_, Cell.at 0 rfl rfl, ?_⟩ | refine ⟨_, Cell.at 1 rfl rfl, ?_⟩ | refine ⟨_, Cell.at 2 rfl rfl, ?_⟩ | refine ⟨_, Cell.at 3 rfl rfl, ?_⟩ | refine ⟨_, Cell.at 4 rfl rfl, ?_⟩ | refine ⟨_, Cell.at 5 rfl rfl, ?_⟩ | refine ⟨_, Cell.at 6 rfl rfl, ?_⟩ | refine ⟨_, Cell.at 7 rfl rfl, ?_⟩ | refine ⟨_, Cell.at 8 rfl rfl, ?_⟩ | refine ⟨_, Cell.at 9 rfl rfl, ?_⟩ | refine ⟨_, Cell.at 10 rfl rfl, ?_⟩ | refine ⟨_, Cell.at 11 rfl rfl, ?_⟩ | refine ⟨_, Cell.at 12 rfl rfl, ?_⟩ | refine ⟨_, Cell.at 13 rfl rfl, ?_⟩ | refine ⟨_, Cell.at 14 rfl rfl, ?_⟩ | refine ⟨_, Cell.at 15 rfl rfl, ?_⟩ | fail); try (with_reducible refine stI ?_); try simp (maxSteps:=1000000)(dsimp:=false)(disch:=omega) only [go_sem, Φa, hP, h24_7, h24_13, h24_19, h24_21, hops]) | fail)
                      all_goals
                        refine hK43 () _ (some (b18, .cells ((stepG g ff w).1.cells (.slice A1st (stepG g ff w).1.st.length c1st) (.slice A1pg (stepG g ff w).1.pg.length c1pg) (.slice A1mm (stepG g ff w).1.mm.length c1mm)).toArray 29 (0, 0)) :: m1 :: m2 :: m3 :: some (b17, .cells (ff.cells (.slice Cf ff.bs.length cc)).toArray 40 (0, 0)) :: some (b15, .cells w.cells.toArray 50 (0, 0)) :: some (b12, .cells ((stepG g f d).1.cells (.slice A0st (stepG g f d).1.st.length c0st) (.slice A0pg (stepG g f d).1.pg.length c0pg) (.slice A0mm (stepG g f d).1.mm.length c0mm)).toArray 29 (0, 0)) :: n1 :: n2 :: n3 :: some (b10, .cells (nextG g).1.cells.toArray 45 (0, 0)) :: some (b9, .cells e.cells.toArray 50 (0, 0)) :: some (b8, .cells d.cells.toArray 50 (0, 0)) :: some (b2, .cells (hcells d e f2 (.slice Bf f2.bs.length ef)).toArray 52 (0, 0)) :: some (b1, .cells (f.cells (.slice Af f.bs.length cf)).toArray 40 (0, 0)) :: some (b0, .cells (g.cells (.slice As g.st.length cs) (.slice Ap g.pg.length cp) (.slice Am g.mm.length cm)).toArray 29 (0, 0)) :: L) _ (by first | exact Less.refl _ | exact Less.drop _ _ | exact Less.drops (Less.drop _ _) | exact Less.drops (Less.drops (Less.drop _ _)) | exact Less.drops (Less.drops (Less.drops (Less.drop _ _))) | exact Less.drops (Less.drops (Less.drops (Less.drops (Less.drop _ _))))) ?_
                        try dsimp only
                        refine ⟨?_, ?_, ?_, ?_⟩
                        · simp (maxSteps:=1000000)(dsimp:=false)(disch:=omega) only [go_sem, Φa, hP, h24_7, h24_13, h24_19, h24_21]
                          first | done | (refine congrArg Value.bool ?_; simp_all; done)
                        · simp (maxSteps:=1000000)(dsimp:=false)(disch:=omega) only [go_sem, Φa, hP, h24_7, h24_13, h24_19, h24_21]
                        · rfl
                        · trivial
                    · intro ss T25 L25 hI
                      simp only [h24_21] at hI 
                      obtain ⟨h25_137, h25_21, hL25, hinv⟩ := hI
                      replace hL25 := hL25.symm
                      subst hL25
                      clear h24_7 h24_13 h24_19 h24_21 T24
                      refine RX.live [21, 137] (fun T26 hT26 => ?_)
                      simp only [forall_mem_cons', forall_mem_nil', go_sem, Φa, hP, h25_137, h25_21] at hT26
                      obtain ⟨h26_21, h26_137⟩ := hT26
                      clear h25_137 h25_21 T25
                      refine RX.join 3 (fun (ss : Unit) T L' => T 140 = .bool (true) ∧ L' = some (b18, .cells ((stepG g ff w).1.cells (.slice A1st (stepG g ff w).1.st.length c1st) (.slice A1pg (stepG g ff w).1.pg.length c1pg) (.slice A1mm (stepG g ff w).1.mm.length c1mm)).toArray 29 (0, 0)) :: m1 :: m2 :: m3 :: some (b17, .cells (ff.cells (.slice Cf ff.bs.length cc)).toArray 40 (0, 0)) :: some (b15, .cells w.cells.toArray 50 (0, 0)) :: some (b12, .cells ((stepG g f d).1.cells (.slice A0st (stepG g f d).1.st.length c0st) (.slice A0pg (stepG g f d).1.pg.length c0pg) (.slice A0mm (stepG g f d).1.mm.length c0mm)).toArray 29 (0, 0)) :: n1 :: n2 :: n3 :: some (b10, .cells (nextG g).1.cells.toArray 45 (0, 0)) :: some (b9, .cells e.cells.toArray 50 (0, 0)) :: some (b8, .cells d.cells.toArray 50 (0, 0)) :: some (b2, .cells (hcells d e f2 (.slice Bf f2.bs.length ef)).toArray 52 (0, 0)) :: some (b1, .cells (f.cells (.slice Af f.bs.length cf)).toArray 40 (0, 0)) :: some (b0, .cells (g.cells (.slice As g.st.length cs) (.slice Ap g.pg.length cp) (.slice Am g.mm.length cm)).toArray 29 (0, 0)) :: L ∧ (True)) (fun K44 hK44 => ?_) ?_
                      · simp (maxSteps:=1000000)(dsimp:=false)(disch:=omega) only [go_sem, Φa, hP, h26_21, h26_137, hops]
                        repeat' (first | refine iteB (fun hg => ?_) (fun hg => ?_) | refine iteI (fun hg => ?_) (fun hg => ?_) | ((first | refine And.intro (by omega) ?_ | refine ⟨_, Cell.at 0 rfl rfl, ?_⟩ | refine ⟨_, Cell.at 1 rfl rfl, ?_⟩ | refine ⟨_, Cell.at 2 rfl rfl, ?_⟩ | refine ⟨_, Cell.at 3 rfl rfl, ?_⟩ | refine ⟨_, Cell.at 4 rfl rfl, ?_⟩ | refine ⟨_, Cell.at 5 rfl rfl, ?_⟩ | refine ⟨_, Cell.at 6 rfl rfl, ?_⟩ | refine ⟨_, Cell.at 7 rfl rfl, ?_⟩ | refine ⟨_, Cell.at 8 rfl rfl, ?_⟩ | refine ⟨_, Cell.at 9 rfl rfl, ?_⟩ | refine ⟨_, Cell.at 10 rfl rfl, ?_⟩ | refine ⟨_, Cell.at 11 rfl rfl, ?_⟩ | refine ⟨_, Cell.at 12 rfl rfl, ?_⟩ | refine ⟨_, Cell.at 13 rfl rfl, ?_⟩ | refine ⟨_, Cell.at 14 rfl rfl, ?_⟩ | refine ⟨_, Cell.at 15 rfl rfl, ?_⟩ | fail); try (with_reducible refine stI ?_); try simp (maxSteps:=1000000)(dsimp:=false)(disch:=omega) only [go_sem, Φa, hP, h26_21, h26_137, hops]) | fail)
                        all_goals
                          refine hK44 () _ (some (b18, .cells ((stepG g ff w).1.cells (.slice A1st (stepG g ff w).1.st.length c1st) (.slice A1pg (stepG g ff w).1.pg.length c1pg) (.slice A1mm (stepG g ff w).1.mm.length c1mm)).toArray 29 (0, 0)) :: m1 :: m2 :: m3 :: some (b17, .cells (ff.cells (.slice Cf ff.bs.length cc)).toArray 40 (0, 0)) :: some (b15, .cells w.cells.toArray 50 (0, 0)) :: some (b12, .cells ((stepG g f d).1.cells (.slice A0st (stepG g f d).1.st.length c0st) (.slice A0pg (stepG g f d).1.pg.length c0pg) (.slice A0mm (stepG g f d).1.mm.length c0mm)).toArray 29 (0, 0)) :: n1 :: n2 :: n3 :: some (b10, .cells (nextG g).1.cells.toArray 45 (0, 0)) :: some (b9, .cells e.cells.toArray 50 (0, 0)) :: some (b8, .cells d.cells.toArray 50 (0, 0)) :: some (b2, .cells (hcells d e f2 (.slice Bf f2.bs.length ef)).toArray 52 (0, 0)) :: some (b1, .cells (f.cells (.slice Af f.bs.length cf)).toArray 40 (0, 0)) :: some (b0, .cells (g.cells (.slice As g.st.length cs) (.slice Ap g.pg.length cp) (.slice Am g.mm.length cm)).toArray 29 (0, 0)) :: L) _ (by first | exact Less.refl _ | exact Less.drop _ _ | exact Less.drops (Less.drop _ _) | exact Less.drops (Less.drops (Less.drop _ _)) | exact Less.drops (Less.drops (Less.drops (Less.drop _ _))) | exact Less.drops (Less.drops (Less.drops (Less.drops (Less.drop _ _))))) ?_
                          try dsimp only
                          refine ⟨?_, ?_, ?_⟩
                          · simp (maxSteps:=1000000)(dsimp:=false)(disch:=omega) only [go_sem, Φa, hP, h26_21, h26_137]
                            first | done | (refine congrArg Value.bool ?_; simp_all; done)
                          · rfl
                          · trivial
                      · intro ss T27 L27 hI
                        obtain ⟨h27_140, hL27, hinv⟩ := hI
                        replace hL27 := hL27.symm
                        subst hL27
                        clear h26_21 h26_137 T26
                        refine RX.done ?_
                        simp (maxSteps:=1000000)(dsimp:=false)(disch:=omega) only [go_sem, Φa, hP, h27_140, hops]
                        refine hK42 _ _ ?_
                        try clear hK42 K42
                        refine SX.ret ?_
                        simp only [andThen_normal, andThen_ret, andThen_exit, inBlk_normal, inBlk_ret, inBlk_exit, Nat.reduceEqDiff, if_true, if_false, ↓reduceIte, retQ_ret]
                        try simp only [res0, res1, res2, res3, stK_e, go_sem, Φa, hP, h27_140]
                        exact ⟨_, _, Less.tail [_, _, _, _, _, _, _, _, _, _, _, _, _, _, _, _] _, rfl, rfl, rfl⟩

end Go.Proofs.Ytgioegdjeodpiaa
set_option linter.unusedVariables false
set_option linter.unusedSimpArgs false
namespace Go.Proofs.Ytgioegdjeodpiaa
open Go.ChangeShapes Go.WideShapes Go.ChangeAt Go.RowKit Go.SX
section
variable {H : Type} {enc : TypeId × Value → H} {W : World} {base : Nat} {v : Value} {d : DataW H} {p : List MemPlace}
theorem cells52 : Try.prog.cellsOf 52 = 24 := by kernel_rfl
set_option maxRecDepth 100000 in
theorem open_otherV {n : Nat} {cs : List Value} {y : DataW H × List MemPlace} (hy : DataW.trod enc Try.prog W 0 (fun _ => true) true n 52 cs = some y) :
    ∃ (x z : Feed) (f : Fnt) (fv : Value), cs = hcells x z f fv ∧ FeedIn x ∧ FeedIn z ∧ FontIn W f fv := by
  obtain ⟨xs, m, _, _, hcs, hxs, hf⟩ := DataW.trod_struct Try.underlying52 hy
  rw [cells52] at hcs
  match cs, hcs with
  | [c0, c1, c2, c3, c4, c5, c6, c7, c8, c9, c10, c11, c12, c13, c14, c15, c16, c17, c18, c19, c20, c21, c22, c23], _ =>
    have h0 : DataW.trod enc Try.prog W 0 (fun _ => true) true m 50 [c0, c1, c2] = xs[0]? := hf 0 _ rfl
    have h1 : DataW.trod enc Try.prog W 0 (fun _ => true) true m 50 [c3, c4, c5] = xs[1]? := hf 1 _ rfl
    have h2 : DataW.trod enc Try.prog W 0 (fun _ => true) true m 40 [c6, c7, c8, c9, c10, c11, c12, c13, c14, c15, c16, c17, c18, c19, c20, c21, c22, c23] = xs[2]? := hf 2 _ rfl
    rw [List.getElem?_eq_getElem (by rw [hxs]; decide)] at h0 h1 h2
    obtain ⟨x, e0, hx⟩ := open_feedC (trod_flat 9 50 _ _ _ _ flat50 h0)
    obtain ⟨z, e1, hz⟩ := open_feedC (trod_flat 9 50 _ _ _ _ flat50 h1)
    obtain ⟨f, fv, e2, hf⟩ := open_fontV h2
    refine ⟨x, z, f, fv, ?_, hx, hz, hf⟩
    unfold hcells
    rw [← e0, ← e1, ← e2]
    rfl
set_option maxRecDepth 100000 in
theorem open_other (hv : Value.okWide Try.prog W .any base 52 v) (h : DataW.Trod enc Try.prog W 0 (fun _ => true) true 52 v d p) :
    ∃ (x z : Feed) (f : Fnt) (fv : Value), v = .agg (hcells x z f fv).toArray ∧ FeedIn x ∧ FeedIn z ∧ FontIn W f fv := by
  obtain ⟨cs, rfl, _⟩ := okWide_struct Try.underlying52 hv
  obtain ⟨fuel, hf⟩ := h
  obtain ⟨x, z, f, fv, e, hx⟩ := open_otherV hf
  exact ⟨x, z, f, fv, by rw [← e]; rfl, hx⟩
end
end Go.Proofs.Ytgioegdjeodpiaa
set_option linter.unusedVariables false
namespace Go.Proofs.Ytgioegdjeodpiaa
open Go.ChangeShapes Go.WideShapes Go.ChangeAt Go.RowKit Go.SX
set_option maxRecDepth 100000 in
theorem gameHangs_lifted (os : Os) (started : os.Started) (H : Type) (enc : TypeId × Value → H) :
    ReturnsInHanded {} Try.checked os 6 .any (Rows.gameHangsSpec.pre6 enc Try.prog Try.f6 Rows.gameHangsRow.domain false) (Rows.gameHangsSpec.post enc Try.prog Try.f6 false true false false) := by
  refine law_lifted (C := Try.checked) (tb := 4) own started (by kernel_rfl) Try.func6
    (ChangeSpec.witness6 (enc := enc) (C := Try.checked) false ⟨#[], #[.agg #[.int .u8 0, .int .u8 0, .int .u8 0, .int .u8 0, .int .u8 0, .int .u8 0, .int .u8 0, .int .u8 0, .int .u8 0, .int .u8 0, .int .u8 0, .int .u8 0, .int .u8 0, .int .u8 0, .int .u8 0, .int .u8 0, .int .u16 0, .int .u16 0, .slice none 0 0, .int .u8 0, .int .u8 0, .slice none 0 0, .slice none 0 0], .agg #[.int .u16 0, .int .u16 0, .int .u16 0, .int .u16 0, .int .u16 0, .int .u16 0, .int .u16 0, .int .u16 0, .int .u16 0, .int .u16 0, .int .u16 0, .int .u16 0, .int .u16 0, .int .u16 0, .int .u16 0, .int .u16 0, .int .u16 0, .slice none 0 0], .agg #[.int .u8 0, .int .u16 0, .int .i64 0, .int .u8 0, .int .u16 0, .int .i64 0, .int .u16 0, .int .u16 0, .int .u16 0, .int .u16 0, .int .u16 0, .int .u16 0, .int .u16 0, .int .u16 0, .int .u16 0, .int .u16 0, .int .u16 0, .int .u16 0, .int .u16 0, .int .u16 0, .int .u16 0, .int .u16 0, .int .u16 0, .slice none 0 0]], []⟩ 8 (by kernel_rfl) (by kernel_rfl) (by kernel_rfl) (by kernel_rfl)) rfl laidOut (by kernel_rfl) rfl Try.underlying4 ?_ ?_
  · intro ds hl
    match ds, hl with
    | [d0, d1, d2], _ => rfl
  · intro W base args ds p hval hA
    rw [Try.params6] at hA hval
    obtain ⟨v0, v1, v2, d0, d1, d2, p0, p1, p2, rfl, rfl, rfl, h0, h1, h2⟩ := trodAll_three hA
    have k0 := hval 0 29 v0 rfl rfl
    obtain ⟨g, sv, pv, mv, rfl, hg, hs, hp, hmv, ls, lp, lm⟩ := open_game k0 h0
    have k1 := hval 1 40 v1 rfl rfl
    obtain ⟨f, fv, rfl, hF, hf, lf⟩ := open_font k1 h1
    have k2 := hval 2 52 v2 rfl rfl
    obtain ⟨x, z, f2, fv2, rfl, hx, hz, hF2, hf2, lf2⟩ := open_other k2 h2
    have hm : (maxLen : Nat) = 9223372036854775807 := rfl
    exact SCall.below (GameHangs_spec rfl hx.1 hz.1 hx.2 hz.2 hF2 hf2 hg hF hs hp hmv hf)
theorem gameHangs_said : Rows.GameHangsSaid :=
  OpenClaim.holds_of_wide 6 Try.f6 rfl rfl rfl rfl rfl rfl rfl ⟨rfl, rfl, rfl, rfl, rfl⟩ rfl rfl rfl rfl rfl (by kernel_rfl) Try.func6 (by kernel_rfl)
    (of_decide_eq_true (by kernel_rfl)) (by unfold Func.isWrapper; first | (rw [if_pos (by decide +kernel)]; kernel_rfl) | (rw [if_neg (by decide +kernel)]; exact ⟨rfl, rfl⟩))
    (fun os started H enc _ => gameHangs_lifted os started H enc)
#print axioms gameHangs_said
end Go.Proofs.Ytgioegdjeodpiaa
