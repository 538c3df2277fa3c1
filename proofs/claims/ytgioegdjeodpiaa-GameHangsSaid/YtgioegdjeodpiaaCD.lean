/- A part of a proof: contracts and plain facts that it stands on. -/
import Derived.Test.YtgioegdjeodpiaaCC
import Derived.Laws.BitsLemmas
import Derived.Laws.BitsAllLaws
import Derived.Laws.Closers25b
set_option linter.unusedVariables false
set_option linter.unusedSimpArgs false
namespace Go.Proofs.Ytgioegdjeodpiaa
open Go.RowKit Go.SX
open Go.SX renaming ia_someH → Φa

def zeroG : GM := ⟨List.replicate 16 0, 0, 0, [], 0, 0, [], []⟩
/-- What Step tells: the game, the outcome, the error. -/
def stepG (g : GM) (f : Fnt) (d : Feed) : GM × Int × Int :=
  if checkE g ≠ 0 then (zeroG, 0, checkE g)
  else if 65536 < f.from_ + (f.bs.length : Int) ∨ 16 ≤ d.key then (zeroG, 0, 1)
  else if (nextG g).2 ≠ 1 then (g, (nextG g).2, 0)
  else let r := doG { g with PC := IntKind.u16.wrap (g.PC + 2) } (nextG g).1 f d
    if r.1 ≠ 1 then (g, r.1, 0) else (r.2, 1, 0)
theorem deed_at {k : Nat} (h2 : 2 ≤ k) (h31 : k ≤ 31) : Instr.findNow (.int .u8) (.int .u8 (k : Int)) deedT 0 = some (some (k - 2, .func (.func (45 + k)) #[] #[])) := by
  have h : k = 2 ∨ k = 3 ∨ k = 4 ∨ k = 5 ∨ k = 6 ∨ k = 7 ∨ k = 8 ∨ k = 9 ∨ k = 10 ∨ k = 11 ∨ k = 12 ∨ k = 13 ∨ k = 14 ∨ k = 15 ∨ k = 16 ∨ k = 17 ∨ k = 18 ∨ k = 19 ∨ k = 20 ∨ k = 21 ∨ k = 22 ∨ k = 23 ∨ k = 24 ∨ k = 25 ∨ k = 26 ∨ k = 27 ∨ k = 28 ∨ k = 29 ∨ k = 30 ∨ k = 31 := by omega
  rcases h with rfl | rfl | rfl | rfl | rfl | rfl | rfl | rfl | rfl | rfl | rfl | rfl | rfl | rfl | rfl | rfl | rfl | rfl | rfl | rfl | rfl | rfl | rfl | rfl | rfl | rfl | rfl | rfl | rfl | rfl <;> rfl
theorem deed_callable {k : Nat} (h2 : 2 ≤ k) (h31 : k ≤ 31) : callable Try.prog (45 + k) = true := by
  have h : k = 2 ∨ k = 3 ∨ k = 4 ∨ k = 5 ∨ k = 6 ∨ k = 7 ∨ k = 8 ∨ k = 9 ∨ k = 10 ∨ k = 11 ∨ k = 12 ∨ k = 13 ∨ k = 14 ∨ k = 15 ∨ k = 16 ∨ k = 17 ∨ k = 18 ∨ k = 19 ∨ k = 20 ∨ k = 21 ∨ k = 22 ∨ k = 23 ∨ k = 24 ∨ k = 25 ∨ k = 26 ∨ k = 27 ∨ k = 28 ∨ k = 29 ∨ k = 30 ∨ k = 31 := by omega
  rcases h with rfl | rfl | rfl | rfl | rfl | rfl | rfl | rfl | rfl | rfl | rfl | rfl | rfl | rfl | rfl | rfl | rfl | rfl | rfl | rfl | rfl | rfl | rfl | rfl | rfl | rfl | rfl | rfl | rfl | rfl
  · exact T.callable_47
  · exact T.callable_48
  · exact T.callable_49
  · exact T.callable_50
  · exact T.callable_51
  · exact T.callable_52
  · exact T.callable_53
  · exact T.callable_54
  · exact T.callable_55
  · exact T.callable_56
  · exact T.callable_57
  · exact T.callable_58
  · exact T.callable_59
  · exact T.callable_60
  · exact T.callable_61
  · exact T.callable_62
  · exact T.callable_63
  · exact T.callable_64
  · exact T.callable_65
  · exact T.callable_66
  · exact T.callable_67
  · exact T.callable_68
  · exact T.callable_69
  · exact T.callable_70
  · exact T.callable_71
  · exact T.callable_72
  · exact T.callable_73
  · exact T.callable_74
  · exact T.callable_75
  · exact T.callable_76
theorem fs_all : (table.all fun r => decide (r.fs = [] ∨ r.fs = [.a] ∨ r.fs = [.x, .b] ∨ r.fs = [.x, .y] ∨ r.fs = [.x, .y, .n] ∨ r.fs = [.x]) && decide (1 ≤ r.op) && decide (r.op ≤ 31)) = true := by kernel_rfl
/-- What an order that was read has. -/
structure DecO (o : Ord) : Prop where
  op1 : 1 ≤ o.op
  op2 : o.op ≤ 31
  x : o.x < 16
  y : o.y < 16
  n : o.n < 16
  b : o.b < 256
  a : o.a < 4096
theorem DecO.ok {o : Ord} (h : DecO o) : OkO o := ⟨by have := h.op2; omega, by have := h.x; omega, by have := h.y; omega, by have := h.n; omega, h.b, by have := h.a; omega⟩
theorem decO_op (w : Nat) (r : RowT) : (decO w r).op = r.op := by
  have : ∀ (l : List Fd) (o : Ord), (l.foldl (fun o f => f.into o (fieldIn w f)) o).op = o.op := by
    intro l
    induction l with
    | nil => intro o; rfl
    | cons f l ih => intro o; rw [List.foldl_cons, ih]; cases f <;> rfl
  exact this _ _
theorem decode_dec {w : Nat} {o : Ord} (h : decode w = some o) : DecO o := by
  unfold decode at h
  cases hr : rowOf w with
  | none => rw [hr] at h; cases h
  | some r =>
    rw [hr] at h
    cases h
    have hm : r ∈ table := List.mem_of_find?_eq_some hr
    have ht := List.all_eq_true.1 fs_all r hm
    simp only [Bool.and_eq_true, decide_eq_true_eq] at ht
    have h1 : (decO w r).op = r.op := decO_op w r
    have hx : fieldIn w .x < 16 := Nat.mod_lt _ (by decide)
    have hy : fieldIn w .y < 16 := Nat.mod_lt _ (by decide)
    have hn : fieldIn w .n < 16 := Nat.mod_lt _ (by decide)
    have hb : fieldIn w .b < 256 := Nat.mod_lt _ (by decide)
    have ha : fieldIn w .a < 4096 := Nat.mod_lt _ (by decide)
    refine ⟨by rw [h1]; exact ht.1.2, by rw [h1]; exact ht.2, ?_, ?_, ?_, ?_, ?_⟩ <;>
      (unfold decO decT; rw [List.take_length]; rcases ht.1.1 with h | h | h | h | h | h <;> rw [h] <;> simp only [List.foldl_cons, List.foldl_nil, Fd.into] <;> omega)
theorem nextG_dec {g : GM} (h : (nextG g).2 = 1) : DecO (nextG g).1 ∧ 2 ≤ (nextG g).1.op := by
  unfold nextG at h ⊢
  split at h
  · cases h
  · rename_i h1
    rw [if_neg h1]
    split at h
    · cases h
    · rename_i h2
      rw [if_neg h2]
      split at h
      · cases h
      · rename_i o ho
        have hd := decode_dec ho
        split at h
        · cases h
        · rename_i h3
          rw [if_neg h3]
          exact ⟨hd, by have := hd.op1; show 2 ≤ o.op; omega⟩
def stepR (r : GM × Int × Int) (L : Hp) (v : Value) (L' : Hp) : Prop := ∃ sv pv mv s1 s2 s3, v = .tuple #[.agg (r.1.cells sv pv mv).toArray, .int .u8 r.2.1, .int .i64 r.2.2] ∧ L' = s1 :: s2 :: s3 :: L ∧ Rows r.1 sv pv mv s1 s2 s3
set_option maxHeartbeats 1000000 in
set_option maxRecDepth 100000 in
theorem Step_spec {Γ : Ctx} (hP : Γ.P = Try.prog) {L : Hp} {g : GM} {sv pv mv : Value} {f : Fnt} {fv : Value} {d : Feed} (hg : OkG g) (hF : OkF f) (hd : OkD d) (hs : SlI .u16 (Cell Γ L) sv g.st) (hp : SlI .u8 (Cell Γ L) pv g.pg) (hm : SlI .u8 (Cell Γ L) mv g.mm) (hf : SlI .u8 (Cell Γ L) fv f.bs) (hsl : g.st.length ≤ 2147483647) (hpl : g.pg.length ≤ 2147483647) (hml : g.mm.length ≤ 2147483647) (hfl : f.bs.length ≤ 2147483647) :
    SCall Γ 25 #[(.agg (g.cells sv pv mv).toArray), (.agg (f.cells fv).toArray), (.agg d.cells.toArray)] L (stepR (stepG g f d) L) := by
  obtain ⟨As, cs, rfl, hcs⟩ := slShape hs
  obtain ⟨Ap, cp, rfl, hcp⟩ := slShape hp
  obtain ⟨Am, cm, rfl, hcm⟩ := slShape hm
  obtain ⟨Af, cf, rfl, hcf⟩ := slShape hf
  have hPCb := hg.PC
  have hfrb := hF.from_
  refine SCall.enter (n := 74) (resX Γ [.cell 6 29, .tmp 7, .tmp 8]) (hP ▸ Try.func25) rfl rfl (by simp) (resX_ok rfl) ?_
  refine SX.seq_k fun K1 hK1 => ?_
  refine SX.region_d [some 3, some 4, some 5, some 6, some 7, some 8] rfl (fun ops hops => ?_)
  unfold Dsts at hops
  simp (maxSteps:=1000000)(dsimp:=false)(disch:=omega) only [go_sem, Φa, hP, hops]
  intro b0
  try with_reducible refine stI ?_
  try simp (maxSteps:=1000000)(dsimp:=false)(disch:=omega) only [go_sem, Φa, hP, hops]
  intro b1
  try with_reducible refine stI ?_
  try simp (maxSteps:=1000000)(dsimp:=false)(disch:=omega) only [go_sem, Φa, hP, hops]
  intro b2
  try with_reducible refine stI ?_
  try simp (maxSteps:=1000000)(dsimp:=false)(disch:=omega) only [go_sem, Φa, hP, hops]
  intro b3
  try with_reducible refine stI ?_
  try simp (maxSteps:=1000000)(dsimp:=false)(disch:=omega) only [go_sem, Φa, hP, hops]
  refine hK1 _ _ ?_
  try clear hK1 K1
  refine SX.seq_k fun K2 hK2 => ?_
  refine SX.seq_k fun K3 hK3 => ?_
  refine SX.region_d [some 13, some 14, some 9] rfl (fun ops hops => ?_)
  unfold Dsts at hops
  simp (maxSteps:=1000000)(dsimp:=false)(disch:=omega) only [go_sem, Φa, hP, hops]
  refine ⟨_, Cell.at 3 rfl rfl, ?_⟩
  try with_reducible refine stI ?_
  try simp (maxSteps:=1000000)(dsimp:=false)(disch:=omega) only [go_sem, Φa, hP, hops]
  refine ⟨_, Cell.at 3 rfl rfl, ?_⟩
  try with_reducible refine stI ?_
  try simp (maxSteps:=1000000)(dsimp:=false)(disch:=omega) only [go_sem, Φa, hP, hops]
  refine ⟨_, Cell.at 3 rfl rfl, ?_⟩
  try with_reducible refine stI ?_
  try simp (maxSteps:=1000000)(dsimp:=false)(disch:=omega) only [go_sem, Φa, hP, hops]
  refine ⟨_, Cell.at 3 rfl rfl, ?_⟩
  try with_reducible refine stI ?_
  try simp (maxSteps:=1000000)(dsimp:=false)(disch:=omega) only [go_sem, Φa, hP, hops]
  refine ⟨_, Cell.at 3 rfl rfl, ?_⟩
  try with_reducible refine stI ?_
  try simp (maxSteps:=1000000)(dsimp:=false)(disch:=omega) only [go_sem, Φa, hP, hops]
  refine ⟨_, Cell.at 3 rfl rfl, ?_⟩
  try with_reducible refine stI ?_
  try simp (maxSteps:=1000000)(dsimp:=false)(disch:=omega) only [go_sem, Φa, hP, hops]
  refine ⟨_, Cell.at 3 rfl rfl, ?_⟩
  try with_reducible refine stI ?_
  try simp (maxSteps:=1000000)(dsimp:=false)(disch:=omega) only [go_sem, Φa, hP, hops]
  refine ⟨_, Cell.at 3 rfl rfl, ?_⟩
  try with_reducible refine stI ?_
  try simp (maxSteps:=1000000)(dsimp:=false)(disch:=omega) only [go_sem, Φa, hP, hops]
  refine ⟨_, Cell.at 3 rfl rfl, ?_⟩
  try with_reducible refine stI ?_
  try simp (maxSteps:=1000000)(dsimp:=false)(disch:=omega) only [go_sem, Φa, hP, hops]
  refine ⟨_, Cell.at 3 rfl rfl, ?_⟩
  try with_reducible refine stI ?_
  try simp (maxSteps:=1000000)(dsimp:=false)(disch:=omega) only [go_sem, Φa, hP, hops]
  refine ⟨_, Cell.at 3 rfl rfl, ?_⟩
  try with_reducible refine stI ?_
  try simp (maxSteps:=1000000)(dsimp:=false)(disch:=omega) only [go_sem, Φa, hP, hops]
  refine ⟨_, Cell.at 3 rfl rfl, ?_⟩
  try with_reducible refine stI ?_
  try simp (maxSteps:=1000000)(dsimp:=false)(disch:=omega) only [go_sem, Φa, hP, hops]
  refine ⟨_, Cell.at 3 rfl rfl, ?_⟩
  try with_reducible refine stI ?_
  try simp (maxSteps:=1000000)(dsimp:=false)(disch:=omega) only [go_sem, Φa, hP, hops]
  refine ⟨_, Cell.at 3 rfl rfl, ?_⟩
  try with_reducible refine stI ?_
  try simp (maxSteps:=1000000)(dsimp:=false)(disch:=omega) only [go_sem, Φa, hP, hops]
  refine ⟨_, Cell.at 3 rfl rfl, ?_⟩
  try with_reducible refine stI ?_
  try simp (maxSteps:=1000000)(dsimp:=false)(disch:=omega) only [go_sem, Φa, hP, hops]
  refine ⟨_, Cell.at 3 rfl rfl, ?_⟩
  try with_reducible refine stI ?_
  try simp (maxSteps:=1000000)(dsimp:=false)(disch:=omega) only [go_sem, Φa, hP, hops]
  refine ⟨_, Cell.at 3 rfl rfl, ?_⟩
  try with_reducible refine stI ?_
  try simp (maxSteps:=1000000)(dsimp:=false)(disch:=omega) only [go_sem, Φa, hP, hops]
  refine ⟨_, Cell.at 3 rfl rfl, ?_⟩
  try with_reducible refine stI ?_
  try simp (maxSteps:=1000000)(dsimp:=false)(disch:=omega) only [go_sem, Φa, hP, hops]
  refine ⟨_, Cell.at 3 rfl rfl, ?_⟩
  try with_reducible refine stI ?_
  try simp (maxSteps:=1000000)(dsimp:=false)(disch:=omega) only [go_sem, Φa, hP, hops]
  refine ⟨_, Cell.at 3 rfl rfl, ?_⟩
  try with_reducible refine stI ?_
  try simp (maxSteps:=1000000)(dsimp:=false)(disch:=omega) only [go_sem, Φa, hP, hops]
  refine ⟨_, Cell.at 3 rfl rfl, ?_⟩
  try with_reducible refine stI ?_
  try simp (maxSteps:=1000000)(dsimp:=false)(disch:=omega) only [go_sem, Φa, hP, hops]
  refine ⟨_, Cell.at 3 rfl rfl, ?_⟩
  try with_reducible refine stI ?_
  try simp (maxSteps:=1000000)(dsimp:=false)(disch:=omega) only [go_sem, Φa, hP, hops]
  refine ⟨_, Cell.at 3 rfl rfl, ?_⟩
  try with_reducible refine stI ?_
  try simp (maxSteps:=1000000)(dsimp:=false)(disch:=omega) only [go_sem, Φa, hP, hops]
  first | (refine SCall.mono (Check_spec (g := g) (sv := .slice As g.st.length cs) (pv := .slice Ap g.pg.length cp) (mv := .slice Am g.mm.length cm) hP (SlI.cons _ (SlI.cons _ (SlI.cons _ (SlI.cons _ hs)))) (SlI.cons _ (SlI.cons _ (SlI.cons _ (SlI.cons _ hp)))) (SlI.cons _ (SlI.cons _ (SlI.cons _ (SlI.cons _ hm)))) (by omega) (by omega) (by omega)) ?_; rintro v_ L_ ⟨hv_, hL_⟩; rw [hv_, hL_]; clear hv_ hL_ v_ L_) | refine ⟨_, Check_spec (g := g) (sv := .slice As g.st.length cs) (pv := .slice Ap g.pg.length cp) (mv := .slice Am g.mm.length cm) hP (SlI.cons _ (SlI.cons _ (SlI.cons _ (SlI.cons _ hs)))) (SlI.cons _ (SlI.cons _ (SlI.cons _ (SlI.cons _ hp)))) (SlI.cons _ (SlI.cons _ (SlI.cons _ (SlI.cons _ hm)))) (by omega) (by omega) (by omega), ?_⟩ | refine ⟨_, fun L0 hl0 => Check_spec (g := g) (sv := .slice As g.st.length cs) (pv := .slice Ap g.pg.length cp) (mv := .slice Am g.mm.length cm) hP (SlI.cons _ (SlI.cons _ (SlI.cons _ (SlI.cons _ hs)))) (SlI.cons _ (SlI.cons _ (SlI.cons _ (SlI.cons _ hp)))) (SlI.cons _ (SlI.cons _ (SlI.cons _ (SlI.cons _ hm)))) (by omega) (by omega) (by omega), ?_⟩
  try with_reducible refine stI ?_
  try simp (maxSteps:=1000000)(dsimp:=false)(disch:=omega) only [go_sem, Φa, hP, hops]
  refine hK3 _ _ ?_
  try clear hK3 K3
  refine SX.live [3, 4, 5, 6, 9] (fun T1 hT1 => ?_)
  simp only [forall_mem_cons', forall_mem_nil', go_sem, Φa, hP] at hT1
  obtain ⟨h1_3, h1_4, h1_5, h1_6, h1_9⟩ := hT1
  refine SX.seq_k fun K4 hK4 => ?_
  refine SX.region_d [some 15, some 16] rfl (fun ops hops => ?_)
  unfold Dsts at hops
  simp (maxSteps:=1000000)(dsimp:=false)(disch:=omega) only [go_sem, Φa, hP, h1_3, h1_4, h1_5, h1_6, h1_9, hops]
  repeat' ((first | refine And.intro (by omega) ?_ | fail); try (with_reducible refine stI ?_); try simp (maxSteps:=1000000)(dsimp:=false)(disch:=omega) only [go_sem, Φa, hP, h1_3, h1_4, h1_5, h1_6, h1_9, hops])
  refine hK4 _ _ ?_
  try clear hK4 K4
  refine SX.cond_k fun X5 Y5 hX5 hY5 => ?_
  simp (maxSteps:=1000000)(dsimp:=false)(disch:=omega) only [go_sem, Φa, hP, h1_3, h1_4, h1_5, h1_6, h1_9, condVC]
  refine ⟨fun hc16 => hX5 ?_, fun hc16 => hY5 ?_⟩
  · clear hX5 hY5 X5 Y5
    refine SX.seq_k fun K6 hK6 => ?_
    refine SX.region_d [some 17, some 18, none, some 7, some 8] rfl (fun ops hops => ?_)
    unfold Dsts at hops
    simp (maxSteps:=1000000)(dsimp:=false)(disch:=omega) only [go_sem, Φa, hP, h1_3, h1_4, h1_5, h1_6, h1_9, hops]
    refine ⟨0, _, _, _, rfl, by decide, .inr (by decide), ?_⟩
    try with_reducible refine stI ?_
    try simp (maxSteps:=1000000)(dsimp:=false)(disch:=omega) only [go_sem, Φa, hP, h1_3, h1_4, h1_5, h1_6, h1_9, hops]
    refine hK6 _ _ ?_
    try clear hK6 K6
    refine SX.ret ?_
    simp only [andThen_normal, andThen_ret, andThen_exit, inBlk_normal, inBlk_ret, inBlk_exit, Nat.reduceEqDiff, if_true, if_false, ↓reduceIte, retQ_ret]
    try simp only [res0,res1,res2,res3,stK_e,resX,resK,oneOr,ld_ptr,loadVC,loadN,List.nil_append,List.cons_append,Nat.reduceAdd,Nat.add_zero,Nat.zero_add,Addr.add_lit,Addr.add_zero',add_addS,T.elA_29,T.lay_29,T.szA_29,T.zr_29,Try.underlying29,go_sem,Φa,hP,h1_3,h1_4,h1_5,h1_6,h1_9]
    refine ⟨_, _, (Less.drops (Less.drops (Less.drops (Less.drop _ _)))).trans ((Less.none _).trans ((Less.none _).trans (Less.none _))), ⟨_, Cell.at 0 rfl rfl, _, Cell.at 0 rfl rfl, _, Cell.at 0 rfl rfl, _, Cell.at 0 rfl rfl, _, Cell.at 0 rfl rfl, _, Cell.at 0 rfl rfl, _, Cell.at 0 rfl rfl, _, Cell.at 0 rfl rfl, _, Cell.at 0 rfl rfl, _, Cell.at 0 rfl rfl, _, Cell.at 0 rfl rfl, _, Cell.at 0 rfl rfl, _, Cell.at 0 rfl rfl, _, Cell.at 0 rfl rfl, _, Cell.at 0 rfl rfl, _, Cell.at 0 rfl rfl, _, Cell.at 0 rfl rfl, _, Cell.at 0 rfl rfl, _, Cell.at 0 rfl rfl, _, Cell.at 0 rfl rfl, _, Cell.at 0 rfl rfl, _, Cell.at 0 rfl rfl, _, Cell.at 0 rfl rfl, rfl⟩, ?_⟩
    unfold stepG
    rw [if_pos (by omega)]
    exact ⟨_, _, _, _, _, _, rfl, rfl, ⟨RowI.nil _ _, RowI.nil _ _, RowI.nil _ _⟩⟩
  · clear hX5 hY5 X5 Y5
    refine SX.skip ?_
    try simp only [andThen_normal, andThen_ret, andThen_exit, inBlk_normal, inBlk_ret, inBlk_exit, Nat.reduceEqDiff, if_true, if_false, ↓reduceIte]
    refine hK2 _ _ ?_
    try clear hK2 K2
    refine SX.seq_k fun K7 hK7 => ?_
    refine SX.seq_k fun K8 hK8 => ?_
    refine SX.region_xd [some 19, some 20, some 21, some 22, some 23, some 24, some 25, some 26, some 27, some 28, some 29, some 30, some 31] rfl (fun ops hops => ?_)
    unfold Dsts at hops
    refine RX.live [3, 4, 5, 6] (fun T2 hT2 => ?_)
    simp only [forall_mem_cons', forall_mem_nil', go_sem, Φa, hP, h1_3, h1_4, h1_5, h1_6, h1_9] at hT2
    obtain ⟨h2_3, h2_4, h2_5, h2_6⟩ := hT2
    clear h1_3 h1_4 h1_5 h1_6 h1_9 T1
    refine RX.join 13 (fun (ss : Unit) T L' => T 31 = .bool (decide (65536 < f.from_ + (f.bs.length : Int)) || decide (16 ≤ d.key)) ∧ T 3 = T2 3 ∧ T 4 = T2 4 ∧ T 5 = T2 5 ∧ T 6 = T2 6 ∧ L' = some (b3, .cells #[.int .u8 0, .int .u8 0, .int .u8 0, .int .u8 0, .int .u8 0, .int .u8 0, .int .u8 0, .int .u8 0, .int .u8 0, .int .u8 0, .int .u8 0, .int .u8 0, .int .u8 0, .int .u8 0, .int .u8 0, .int .u8 0, .int .u16 0, .int .u16 0, .slice none 0 0, .int .u8 0, .int .u8 0, .slice none 0 0, .slice none 0 0] 29 (0, 0)) :: some (b2, .cells d.cells.toArray 50 (0, 0)) :: some (b1, .cells (f.cells (.slice Af f.bs.length cf)).toArray 40 (0, 0)) :: some (b0, .cells (g.cells (.slice As g.st.length cs) (.slice Ap g.pg.length cp) (.slice Am g.mm.length cm)).toArray 29 (0, 0)) :: L ∧ (True)) (fun K9 hK9 => ?_) ?_
    · simp only [h2_3, h2_4, h2_5, h2_6] at hK9
      simp (maxSteps:=1000000)(dsimp:=false)(disch:=omega) only [go_sem, Φa, hP, h2_3, h2_4, h2_5, h2_6, hops]
      repeat' (first | refine iteB (fun hg => ?_) (fun hg => ?_) | refine iteI (fun hg => ?_) (fun hg => ?_) | ((first | refine ⟨_, Cell.at 2 rfl (show (f.cells _)[16]? = _ from rfl), ?_⟩ | refine ⟨_, Cell.at 2 rfl (show (f.cells _)[17]? = _ from rfl), ?_⟩ | refine ⟨_, Cell.at 1 rfl (show (d.cells)[2]? = _ from rfl), ?_⟩ | refine And.intro (by omega) ?_ | refine ⟨_, Cell.at 0 rfl rfl, ?_⟩ | refine ⟨_, Cell.at 1 rfl rfl, ?_⟩ | refine ⟨_, Cell.at 2 rfl rfl, ?_⟩ | refine ⟨_, Cell.at 3 rfl rfl, ?_⟩ | fail); try (with_reducible refine stI ?_); try simp (maxSteps:=1000000)(dsimp:=false)(disch:=omega) only [go_sem, Φa, hP, h2_3, h2_4, h2_5, h2_6, hops]) | fail)
      all_goals
        refine hK9 () _ (some (b3, .cells #[.int .u8 0, .int .u8 0, .int .u8 0, .int .u8 0, .int .u8 0, .int .u8 0, .int .u8 0, .int .u8 0, .int .u8 0, .int .u8 0, .int .u8 0, .int .u8 0, .int .u8 0, .int .u8 0, .int .u8 0, .int .u8 0, .int .u16 0, .int .u16 0, .slice none 0 0, .int .u8 0, .int .u8 0, .slice none 0 0, .slice none 0 0] 29 (0, 0)) :: some (b2, .cells d.cells.toArray 50 (0, 0)) :: some (b1, .cells (f.cells (.slice Af f.bs.length cf)).toArray 40 (0, 0)) :: some (b0, .cells (g.cells (.slice As g.st.length cs) (.slice Ap g.pg.length cp) (.slice Am g.mm.length cm)).toArray 29 (0, 0)) :: L) _ (by first | exact Less.refl _ | exact Less.drop _ _ | exact Less.drops (Less.drop _ _) | exact Less.drops (Less.drops (Less.drop _ _)) | exact Less.drops (Less.drops (Less.drops (Less.drop _ _))) | exact Less.drops (Less.drops (Less.drops (Less.drops (Less.drop _ _))))) ?_
        try dsimp only
        refine ⟨?_, ?_, ?_, ?_, ?_, ?_, ?_⟩
        · simp (maxSteps:=1000000)(dsimp:=false)(disch:=omega) only [go_sem, Φa, hP, h2_3, h2_4, h2_5, h2_6]
          first | done | (refine congrArg Value.bool ?_; simp_all; done) | (refine congrArg Value.bool ?_; simp_all; omega)
        · simp (maxSteps:=1000000)(dsimp:=false)(disch:=omega) only [go_sem, Φa, hP, h2_3, h2_4, h2_5, h2_6]
        · simp (maxSteps:=1000000)(dsimp:=false)(disch:=omega) only [go_sem, Φa, hP, h2_3, h2_4, h2_5, h2_6]
        · simp (maxSteps:=1000000)(dsimp:=false)(disch:=omega) only [go_sem, Φa, hP, h2_3, h2_4, h2_5, h2_6]
        · simp (maxSteps:=1000000)(dsimp:=false)(disch:=omega) only [go_sem, Φa, hP, h2_3, h2_4, h2_5, h2_6]
        · rfl
        · trivial
    · intro ss T3 L3 hI
      simp only [h2_3, h2_4, h2_5, h2_6] at hI 
      obtain ⟨h3_31, h3_3, h3_4, h3_5, h3_6, hL3, hinv⟩ := hI
      replace hL3 := hL3.symm
      subst hL3
      clear h2_3 h2_4 h2_5 h2_6 T2
      refine RX.done ?_
      simp (maxSteps:=1000000)(dsimp:=false)(disch:=omega) only [go_sem, Φa, hP, h3_31, h3_3, h3_4, h3_5, h3_6, hops]
      refine hK8 _ _ ?_
      try clear hK8 K8
      refine SX.cond_k fun X10 Y10 hX10 hY10 => ?_
      simp (maxSteps:=1000000)(dsimp:=false)(disch:=omega) only [go_sem, Φa, hP, h3_31, h3_3, h3_4, h3_5, h3_6, condVC]
      refine ⟨fun hc31 => hX10 ?_, fun hc31 => hY10 ?_⟩
      · clear hX10 hY10 X10 Y10
        refine SX.seq_k fun K11 hK11 => ?_
        refine SX.region_d [some 32, none, some 7, some 8] rfl (fun ops hops => ?_)
        unfold Dsts at hops
        simp (maxSteps:=1000000)(dsimp:=false)(disch:=omega) only [go_sem, Φa, hP, h3_31, h3_3, h3_4, h3_5, h3_6, hops]
        refine ⟨0, _, _, _, rfl, by decide, .inr (by decide), ?_⟩
        try with_reducible refine stI ?_
        try simp (maxSteps:=1000000)(dsimp:=false)(disch:=omega) only [go_sem, Φa, hP, h3_31, h3_3, h3_4, h3_5, h3_6, hops]
        refine hK11 _ _ ?_
        try clear hK11 K11
        refine SX.ret ?_
        simp only [andThen_normal, andThen_ret, andThen_exit, inBlk_normal, inBlk_ret, inBlk_exit, Nat.reduceEqDiff, if_true, if_false, ↓reduceIte, retQ_ret]
        try simp only [res0,res1,res2,res3,stK_e,resX,resK,oneOr,ld_ptr,loadVC,loadN,List.nil_append,List.cons_append,Nat.reduceAdd,Nat.add_zero,Nat.zero_add,Addr.add_lit,Addr.add_zero',add_addS,T.elA_29,T.lay_29,T.szA_29,T.zr_29,Try.underlying29,go_sem,Φa,hP,h3_31,h3_3,h3_4,h3_5,h3_6]
        refine ⟨_, _, (Less.drops (Less.drops (Less.drops (Less.drop _ _)))).trans ((Less.none _).trans ((Less.none _).trans (Less.none _))), ⟨_, Cell.at 0 rfl rfl, _, Cell.at 0 rfl rfl, _, Cell.at 0 rfl rfl, _, Cell.at 0 rfl rfl, _, Cell.at 0 rfl rfl, _, Cell.at 0 rfl rfl, _, Cell.at 0 rfl rfl, _, Cell.at 0 rfl rfl, _, Cell.at 0 rfl rfl, _, Cell.at 0 rfl rfl, _, Cell.at 0 rfl rfl, _, Cell.at 0 rfl rfl, _, Cell.at 0 rfl rfl, _, Cell.at 0 rfl rfl, _, Cell.at 0 rfl rfl, _, Cell.at 0 rfl rfl, _, Cell.at 0 rfl rfl, _, Cell.at 0 rfl rfl, _, Cell.at 0 rfl rfl, _, Cell.at 0 rfl rfl, _, Cell.at 0 rfl rfl, _, Cell.at 0 rfl rfl, _, Cell.at 0 rfl rfl, rfl⟩, ?_⟩
        unfold stepG
        rw [if_neg (by omega), if_pos (by simpa using hc31)]
        exact ⟨_, _, _, _, _, _, rfl, rfl, ⟨RowI.nil _ _, RowI.nil _ _, RowI.nil _ _⟩⟩
      · clear hX10 hY10 X10 Y10
        refine SX.skip ?_
        try simp only [andThen_normal, andThen_ret, andThen_exit, inBlk_normal, inBlk_ret, inBlk_exit, Nat.reduceEqDiff, if_true, if_false, ↓reduceIte]
        refine hK7 _ _ ?_
        try clear hK7 K7
        refine SX.seq_k fun K12 hK12 => ?_
        have hsl2 : g.st.length ≤ 1000000 := by unfold checkE at hc16; split at hc16 <;> omega
        have hpl2 : g.pg.length ≤ 1000000 := by unfold checkE at hc16; split at hc16 <;> omega
        have hml2 : g.mm.length ≤ 1000000 := by unfold checkE at hc16; split at hc16 <;> omega
        refine SX.region_d [some 34, some 35, some 33, some 36, some 37, some 10, none, some 11] rfl (fun ops hops => ?_)
        unfold Dsts at hops
        simp (maxSteps:=1000000)(dsimp:=false)(disch:=omega) only [go_sem, Φa, hP, h3_31, h3_3, h3_4, h3_5, h3_6, hops]
        refine ⟨_, Cell.at 3 rfl rfl, ?_⟩
        try with_reducible refine stI ?_
        try simp (maxSteps:=1000000)(dsimp:=false)(disch:=omega) only [go_sem, Φa, hP, h3_31, h3_3, h3_4, h3_5, h3_6, hops]
        refine ⟨_, Cell.at 3 rfl rfl, ?_⟩
        try with_reducible refine stI ?_
        try simp (maxSteps:=1000000)(dsimp:=false)(disch:=omega) only [go_sem, Φa, hP, h3_31, h3_3, h3_4, h3_5, h3_6, hops]
        refine ⟨_, Cell.at 3 rfl rfl, ?_⟩
        try with_reducible refine stI ?_
        try simp (maxSteps:=1000000)(dsimp:=false)(disch:=omega) only [go_sem, Φa, hP, h3_31, h3_3, h3_4, h3_5, h3_6, hops]
        refine ⟨_, Cell.at 3 rfl rfl, ?_⟩
        try with_reducible refine stI ?_
        try simp (maxSteps:=1000000)(dsimp:=false)(disch:=omega) only [go_sem, Φa, hP, h3_31, h3_3, h3_4, h3_5, h3_6, hops]
        refine ⟨_, Cell.at 3 rfl rfl, ?_⟩
        try with_reducible refine stI ?_
        try simp (maxSteps:=1000000)(dsimp:=false)(disch:=omega) only [go_sem, Φa, hP, h3_31, h3_3, h3_4, h3_5, h3_6, hops]
        refine ⟨_, Cell.at 3 rfl rfl, ?_⟩
        try with_reducible refine stI ?_
        try simp (maxSteps:=1000000)(dsimp:=false)(disch:=omega) only [go_sem, Φa, hP, h3_31, h3_3, h3_4, h3_5, h3_6, hops]
        refine ⟨_, Cell.at 3 rfl rfl, ?_⟩
        try with_reducible refine stI ?_
        try simp (maxSteps:=1000000)(dsimp:=false)(disch:=omega) only [go_sem, Φa, hP, h3_31, h3_3, h3_4, h3_5, h3_6, hops]
        refine ⟨_, Cell.at 3 rfl rfl, ?_⟩
        try with_reducible refine stI ?_
        try simp (maxSteps:=1000000)(dsimp:=false)(disch:=omega) only [go_sem, Φa, hP, h3_31, h3_3, h3_4, h3_5, h3_6, hops]
        refine ⟨_, Cell.at 3 rfl rfl, ?_⟩
        try with_reducible refine stI ?_
        try simp (maxSteps:=1000000)(dsimp:=false)(disch:=omega) only [go_sem, Φa, hP, h3_31, h3_3, h3_4, h3_5, h3_6, hops]
        refine ⟨_, Cell.at 3 rfl rfl, ?_⟩
        try with_reducible refine stI ?_
        try simp (maxSteps:=1000000)(dsimp:=false)(disch:=omega) only [go_sem, Φa, hP, h3_31, h3_3, h3_4, h3_5, h3_6, hops]
        refine ⟨_, Cell.at 3 rfl rfl, ?_⟩
        try with_reducible refine stI ?_
        try simp (maxSteps:=1000000)(dsimp:=false)(disch:=omega) only [go_sem, Φa, hP, h3_31, h3_3, h3_4, h3_5, h3_6, hops]
        refine ⟨_, Cell.at 3 rfl rfl, ?_⟩
        try with_reducible refine stI ?_
        try simp (maxSteps:=1000000)(dsimp:=false)(disch:=omega) only [go_sem, Φa, hP, h3_31, h3_3, h3_4, h3_5, h3_6, hops]
        refine ⟨_, Cell.at 3 rfl rfl, ?_⟩
        try with_reducible refine stI ?_
        try simp (maxSteps:=1000000)(dsimp:=false)(disch:=omega) only [go_sem, Φa, hP, h3_31, h3_3, h3_4, h3_5, h3_6, hops]
        refine ⟨_, Cell.at 3 rfl rfl, ?_⟩
        try with_reducible refine stI ?_
        try simp (maxSteps:=1000000)(dsimp:=false)(disch:=omega) only [go_sem, Φa, hP, h3_31, h3_3, h3_4, h3_5, h3_6, hops]
        refine ⟨_, Cell.at 3 rfl rfl, ?_⟩
        try with_reducible refine stI ?_
        try simp (maxSteps:=1000000)(dsimp:=false)(disch:=omega) only [go_sem, Φa, hP, h3_31, h3_3, h3_4, h3_5, h3_6, hops]
        refine ⟨_, Cell.at 3 rfl rfl, ?_⟩
        try with_reducible refine stI ?_
        try simp (maxSteps:=1000000)(dsimp:=false)(disch:=omega) only [go_sem, Φa, hP, h3_31, h3_3, h3_4, h3_5, h3_6, hops]
        refine ⟨_, Cell.at 3 rfl rfl, ?_⟩
        try with_reducible refine stI ?_
        try simp (maxSteps:=1000000)(dsimp:=false)(disch:=omega) only [go_sem, Φa, hP, h3_31, h3_3, h3_4, h3_5, h3_6, hops]
        refine ⟨_, Cell.at 3 rfl rfl, ?_⟩
        try with_reducible refine stI ?_
        try simp (maxSteps:=1000000)(dsimp:=false)(disch:=omega) only [go_sem, Φa, hP, h3_31, h3_3, h3_4, h3_5, h3_6, hops]
        refine ⟨_, Cell.at 3 rfl rfl, ?_⟩
        try with_reducible refine stI ?_
        try simp (maxSteps:=1000000)(dsimp:=false)(disch:=omega) only [go_sem, Φa, hP, h3_31, h3_3, h3_4, h3_5, h3_6, hops]
        refine ⟨_, Cell.at 3 rfl rfl, ?_⟩
        try with_reducible refine stI ?_
        try simp (maxSteps:=1000000)(dsimp:=false)(disch:=omega) only [go_sem, Φa, hP, h3_31, h3_3, h3_4, h3_5, h3_6, hops]
        refine ⟨_, Cell.at 3 rfl rfl, ?_⟩
        try with_reducible refine stI ?_
        try simp (maxSteps:=1000000)(dsimp:=false)(disch:=omega) only [go_sem, Φa, hP, h3_31, h3_3, h3_4, h3_5, h3_6, hops]
        refine ⟨_, Cell.at 3 rfl rfl, ?_⟩
        try with_reducible refine stI ?_
        try simp (maxSteps:=1000000)(dsimp:=false)(disch:=omega) only [go_sem, Φa, hP, h3_31, h3_3, h3_4, h3_5, h3_6, hops]
        refine ⟨_, Cell.at 3 rfl rfl, ?_⟩
        try with_reducible refine stI ?_
        try simp (maxSteps:=1000000)(dsimp:=false)(disch:=omega) only [go_sem, Φa, hP, h3_31, h3_3, h3_4, h3_5, h3_6, hops]
        first | (refine SCall.mono (Next_spec (g := g) (sv := .slice As g.st.length cs) (pv := .slice Ap g.pg.length cp) (mv := .slice Am g.mm.length cm) hP hg (SlI.cons _ (SlI.cons _ (SlI.cons _ (SlI.cons _ hs)))) (SlI.cons _ (SlI.cons _ (SlI.cons _ (SlI.cons _ hp)))) (SlI.cons _ (SlI.cons _ (SlI.cons _ (SlI.cons _ hm)))) (by omega) (by omega) (by omega)) ?_; rintro v_ L_ ⟨hv_, hL_⟩; rw [hv_, hL_]; clear hv_ hL_ v_ L_) | refine ⟨_, Next_spec (g := g) (sv := .slice As g.st.length cs) (pv := .slice Ap g.pg.length cp) (mv := .slice Am g.mm.length cm) hP hg (SlI.cons _ (SlI.cons _ (SlI.cons _ (SlI.cons _ hs)))) (SlI.cons _ (SlI.cons _ (SlI.cons _ (SlI.cons _ hp)))) (SlI.cons _ (SlI.cons _ (SlI.cons _ (SlI.cons _ hm)))) (by omega) (by omega) (by omega), ?_⟩ | refine ⟨_, fun L0 hl0 => Next_spec (g := g) (sv := .slice As g.st.length cs) (pv := .slice Ap g.pg.length cp) (mv := .slice Am g.mm.length cm) hP hg (SlI.cons _ (SlI.cons _ (SlI.cons _ (SlI.cons _ hs)))) (SlI.cons _ (SlI.cons _ (SlI.cons _ (SlI.cons _ hp)))) (SlI.cons _ (SlI.cons _ (SlI.cons _ (SlI.cons _ hm)))) (by omega) (by omega) (by omega), ?_⟩
        unfold nextV Ord.cells
        try with_reducible refine stI ?_
        try simp (maxSteps:=1000000)(dsimp:=false)(disch:=omega) only [go_sem, Φa, hP, h3_31, h3_3, h3_4, h3_5, h3_6, hops]
        intro b4
        try with_reducible refine stI ?_
        try simp (maxSteps:=1000000)(dsimp:=false)(disch:=omega) only [go_sem, Φa, hP, h3_31, h3_3, h3_4, h3_5, h3_6, hops]
        refine ⟨0, _, _, _, rfl, by decide, .inr (by decide), ?_⟩
        try with_reducible refine stI ?_
        try simp (maxSteps:=1000000)(dsimp:=false)(disch:=omega) only [go_sem, Φa, hP, h3_31, h3_3, h3_4, h3_5, h3_6, hops]
        refine hK12 _ _ ?_
        try clear hK12 K12
        refine SX.seq_k fun K13 hK13 => ?_
        refine SX.seq_k fun K14 hK14 => ?_
        refine SX.region_d [some 38, some 39] rfl (fun ops hops => ?_)
        unfold Dsts at hops
        simp (maxSteps:=1000000)(dsimp:=false)(disch:=omega) only [go_sem, Φa, hP, h3_31, h3_3, h3_4, h3_5, h3_6, hops]
        repeat' ((first | refine And.intro (by omega) ?_ | fail); try (with_reducible refine stI ?_); try simp (maxSteps:=1000000)(dsimp:=false)(disch:=omega) only [go_sem, Φa, hP, h3_31, h3_3, h3_4, h3_5, h3_6, hops])
        refine hK14 _ _ ?_
        try clear hK14 K14
        refine SX.live [3, 4, 5, 6, 10, 11, 39] (fun T4 hT4 => ?_)
        simp only [forall_mem_cons', forall_mem_nil', go_sem, Φa, hP, h3_31, h3_3, h3_4, h3_5, h3_6] at hT4
        obtain ⟨h4_3, h4_4, h4_5, h4_6, h4_10, h4_11, h4_39⟩ := hT4
        clear h3_31 h3_3 h3_4 h3_5 h3_6 T3
        refine SX.cond_k fun X15 Y15 hX15 hY15 => ?_
        simp (maxSteps:=1000000)(dsimp:=false)(disch:=omega) only [go_sem, Φa, hP, h4_3, h4_4, h4_5, h4_6, h4_10, h4_11, h4_39, condVC]
        refine ⟨fun hc39 => hX15 ?_, fun hc39 => hY15 ?_⟩
        · clear hX15 hY15 X15 Y15
          refine SX.seq_k fun K16 hK16 => ?_
          refine SX.region_d [some 40, some 41, some 42, none, some 7, some 8] rfl (fun ops hops => ?_)
          unfold Dsts at hops
          simp (maxSteps:=1000000)(dsimp:=false)(disch:=omega) only [go_sem, Φa, hP, h4_3, h4_4, h4_5, h4_6, h4_10, h4_11, h4_39, hops]
          refine ⟨_, Cell.at 4 rfl rfl, ?_⟩
          try with_reducible refine stI ?_
          try simp (maxSteps:=1000000)(dsimp:=false)(disch:=omega) only [go_sem, Φa, hP, h4_3, h4_4, h4_5, h4_6, h4_10, h4_11, h4_39, hops]
          refine ⟨_, Cell.at 4 rfl rfl, ?_⟩
          try with_reducible refine stI ?_
          try simp (maxSteps:=1000000)(dsimp:=false)(disch:=omega) only [go_sem, Φa, hP, h4_3, h4_4, h4_5, h4_6, h4_10, h4_11, h4_39, hops]
          refine ⟨_, Cell.at 4 rfl rfl, ?_⟩
          try with_reducible refine stI ?_
          try simp (maxSteps:=1000000)(dsimp:=false)(disch:=omega) only [go_sem, Φa, hP, h4_3, h4_4, h4_5, h4_6, h4_10, h4_11, h4_39, hops]
          refine ⟨_, Cell.at 4 rfl rfl, ?_⟩
          try with_reducible refine stI ?_
          try simp (maxSteps:=1000000)(dsimp:=false)(disch:=omega) only [go_sem, Φa, hP, h4_3, h4_4, h4_5, h4_6, h4_10, h4_11, h4_39, hops]
          refine ⟨_, Cell.at 4 rfl rfl, ?_⟩
          try with_reducible refine stI ?_
          try simp (maxSteps:=1000000)(dsimp:=false)(disch:=omega) only [go_sem, Φa, hP, h4_3, h4_4, h4_5, h4_6, h4_10, h4_11, h4_39, hops]
          refine ⟨_, Cell.at 4 rfl rfl, ?_⟩
          try with_reducible refine stI ?_
          try simp (maxSteps:=1000000)(dsimp:=false)(disch:=omega) only [go_sem, Φa, hP, h4_3, h4_4, h4_5, h4_6, h4_10, h4_11, h4_39, hops]
          refine ⟨_, Cell.at 4 rfl rfl, ?_⟩
          try with_reducible refine stI ?_
          try simp (maxSteps:=1000000)(dsimp:=false)(disch:=omega) only [go_sem, Φa, hP, h4_3, h4_4, h4_5, h4_6, h4_10, h4_11, h4_39, hops]
          refine ⟨_, Cell.at 4 rfl rfl, ?_⟩
          try with_reducible refine stI ?_
          try simp (maxSteps:=1000000)(dsimp:=false)(disch:=omega) only [go_sem, Φa, hP, h4_3, h4_4, h4_5, h4_6, h4_10, h4_11, h4_39, hops]
          refine ⟨_, Cell.at 4 rfl rfl, ?_⟩
          try with_reducible refine stI ?_
          try simp (maxSteps:=1000000)(dsimp:=false)(disch:=omega) only [go_sem, Φa, hP, h4_3, h4_4, h4_5, h4_6, h4_10, h4_11, h4_39, hops]
          refine ⟨_, Cell.at 4 rfl rfl, ?_⟩
          try with_reducible refine stI ?_
          try simp (maxSteps:=1000000)(dsimp:=false)(disch:=omega) only [go_sem, Φa, hP, h4_3, h4_4, h4_5, h4_6, h4_10, h4_11, h4_39, hops]
          refine ⟨_, Cell.at 4 rfl rfl, ?_⟩
          try with_reducible refine stI ?_
          try simp (maxSteps:=1000000)(dsimp:=false)(disch:=omega) only [go_sem, Φa, hP, h4_3, h4_4, h4_5, h4_6, h4_10, h4_11, h4_39, hops]
          refine ⟨_, Cell.at 4 rfl rfl, ?_⟩
          try with_reducible refine stI ?_
          try simp (maxSteps:=1000000)(dsimp:=false)(disch:=omega) only [go_sem, Φa, hP, h4_3, h4_4, h4_5, h4_6, h4_10, h4_11, h4_39, hops]
          refine ⟨_, Cell.at 4 rfl rfl, ?_⟩
          try with_reducible refine stI ?_
          try simp (maxSteps:=1000000)(dsimp:=false)(disch:=omega) only [go_sem, Φa, hP, h4_3, h4_4, h4_5, h4_6, h4_10, h4_11, h4_39, hops]
          refine ⟨_, Cell.at 4 rfl rfl, ?_⟩
          try with_reducible refine stI ?_
          try simp (maxSteps:=1000000)(dsimp:=false)(disch:=omega) only [go_sem, Φa, hP, h4_3, h4_4, h4_5, h4_6, h4_10, h4_11, h4_39, hops]
          refine ⟨_, Cell.at 4 rfl rfl, ?_⟩
          try with_reducible refine stI ?_
          try simp (maxSteps:=1000000)(dsimp:=false)(disch:=omega) only [go_sem, Φa, hP, h4_3, h4_4, h4_5, h4_6, h4_10, h4_11, h4_39, hops]
          refine ⟨_, Cell.at 4 rfl rfl, ?_⟩
          try with_reducible refine stI ?_
          try simp (maxSteps:=1000000)(dsimp:=false)(disch:=omega) only [go_sem, Φa, hP, h4_3, h4_4, h4_5, h4_6, h4_10, h4_11, h4_39, hops]
          refine ⟨_, Cell.at 4 rfl rfl, ?_⟩
          try with_reducible refine stI ?_
          try simp (maxSteps:=1000000)(dsimp:=false)(disch:=omega) only [go_sem, Φa, hP, h4_3, h4_4, h4_5, h4_6, h4_10, h4_11, h4_39, hops]
          refine ⟨_, Cell.at 4 rfl rfl, ?_⟩
          try with_reducible refine stI ?_
          try simp (maxSteps:=1000000)(dsimp:=false)(disch:=omega) only [go_sem, Φa, hP, h4_3, h4_4, h4_5, h4_6, h4_10, h4_11, h4_39, hops]
          refine ⟨_, Cell.at 4 rfl rfl, ?_⟩
          try with_reducible refine stI ?_
          try simp (maxSteps:=1000000)(dsimp:=false)(disch:=omega) only [go_sem, Φa, hP, h4_3, h4_4, h4_5, h4_6, h4_10, h4_11, h4_39, hops]
          refine ⟨_, Cell.at 4 rfl rfl, ?_⟩
          try with_reducible refine stI ?_
          try simp (maxSteps:=1000000)(dsimp:=false)(disch:=omega) only [go_sem, Φa, hP, h4_3, h4_4, h4_5, h4_6, h4_10, h4_11, h4_39, hops]
          refine ⟨_, Cell.at 4 rfl rfl, ?_⟩
          try with_reducible refine stI ?_
          try simp (maxSteps:=1000000)(dsimp:=false)(disch:=omega) only [go_sem, Φa, hP, h4_3, h4_4, h4_5, h4_6, h4_10, h4_11, h4_39, hops]
          refine ⟨_, Cell.at 4 rfl rfl, ?_⟩
          try with_reducible refine stI ?_
          try simp (maxSteps:=1000000)(dsimp:=false)(disch:=omega) only [go_sem, Φa, hP, h4_3, h4_4, h4_5, h4_6, h4_10, h4_11, h4_39, hops]
          refine ⟨_, Cell.at 4 rfl rfl, ?_⟩
          try with_reducible refine stI ?_
          try simp (maxSteps:=1000000)(dsimp:=false)(disch:=omega) only [go_sem, Φa, hP, h4_3, h4_4, h4_5, h4_6, h4_10, h4_11, h4_39, hops]
          refine SCall.mono (clone_spec (g := g) (sv := .slice As g.st.length cs) (pv := .slice Ap g.pg.length cp) (mv := .slice Am g.mm.length cm) hP (SlI.cons _ (SlI.cons _ (SlI.cons _ (SlI.cons _ (SlI.cons _ hs))))) (SlI.cons _ (SlI.cons _ (SlI.cons _ (SlI.cons _ (SlI.cons _ hp))))) (SlI.cons _ (SlI.cons _ (SlI.cons _ (SlI.cons _ (SlI.cons _ hm))))) hsl2 hpl2 hml2) ?_
          rintro v_ L_ ⟨sv', pv', mv', t1, t2, t3, rfl, rfl, hrc⟩
          obtain ⟨Z1, z1, rfl, hz1⟩ := rowShape hrc.st
          obtain ⟨Z2, z2, rfl, hz2⟩ := rowShape hrc.pg
          obtain ⟨Z3, z3, rfl, hz3⟩ := rowShape hrc.mm
          unfold GM.cells
          try with_reducible refine stI ?_
          try simp (maxSteps:=1000000)(dsimp:=false)(disch:=omega) only [go_sem, Φa, hP, h4_3, h4_4, h4_5, h4_6, h4_10, h4_11, h4_39, hops]
          refine ⟨4, _, _, _, rfl, by decide, .inr (by decide), ?_⟩
          try with_reducible refine stI ?_
          try simp (maxSteps:=1000000)(dsimp:=false)(disch:=omega) only [go_sem, Φa, hP, h4_3, h4_4, h4_5, h4_6, h4_10, h4_11, h4_39, hops]
          refine hK16 _ _ ?_
          try clear hK16 K16
          refine SX.ret ?_
          simp only [andThen_normal, andThen_ret, andThen_exit, inBlk_normal, inBlk_ret, inBlk_exit, Nat.reduceEqDiff, if_true, if_false, ↓reduceIte, retQ_ret]
          try simp only [res0,res1,res2,res3,stK_e,resX,resK,oneOr,ld_ptr,loadVC,loadN,List.nil_append,List.cons_append,Nat.reduceAdd,Nat.add_zero,Nat.zero_add,Addr.add_lit,Addr.add_zero',add_addS,T.elA_29,T.lay_29,T.szA_29,T.zr_29,Try.underlying29,go_sem,Φa,hP,h4_3,h4_4,h4_5,h4_6,h4_10,h4_11,h4_39]
          refine ⟨_, _, Less.sublist (.cons_cons _ (.cons_cons _ (.cons_cons _ (.cons _ (.cons _ (.cons _ (.cons _ (.cons _ (List.Sublist.refl _))))))))), ⟨_, Cell.at 4 rfl rfl, _, Cell.at 4 rfl rfl, _, Cell.at 4 rfl rfl, _, Cell.at 4 rfl rfl, _, Cell.at 4 rfl rfl, _, Cell.at 4 rfl rfl, _, Cell.at 4 rfl rfl, _, Cell.at 4 rfl rfl, _, Cell.at 4 rfl rfl, _, Cell.at 4 rfl rfl, _, Cell.at 4 rfl rfl, _, Cell.at 4 rfl rfl, _, Cell.at 4 rfl rfl, _, Cell.at 4 rfl rfl, _, Cell.at 4 rfl rfl, _, Cell.at 4 rfl rfl, _, Cell.at 4 rfl rfl, _, Cell.at 4 rfl rfl, _, Cell.at 4 rfl rfl, _, Cell.at 4 rfl rfl, _, Cell.at 4 rfl rfl, _, Cell.at 4 rfl rfl, _, Cell.at 4 rfl rfl, rfl⟩, ?_⟩
          unfold stepG
          rw [if_neg (by omega), if_neg (by simp at hc31; omega), if_pos (by omega)]
          exact ⟨_, _, _, t1, t2, t3, rfl, rfl, hrc⟩
        · clear hX15 hY15 X15 Y15
          refine SX.skip ?_
          try simp only [andThen_normal, andThen_ret, andThen_exit, inBlk_normal, inBlk_ret, inBlk_exit, Nat.reduceEqDiff, if_true, if_false, ↓reduceIte]
          refine hK13 _ _ ?_
          try clear hK13 K13
          refine SX.seq_k fun K17 hK17 => ?_
          refine SX.drawn_d [(0, .q), (2, .q), (3, .q), (4, .q), (1, .e), (5, .q), (6, .e), (7, .q)] (fun L => L) (hP ▸ T.mixed) (by kernel_rfl) (by exact Less.refl _) [some 43, some 44, some 45, some 46, some 47, some 48, some 49, some 12] rfl (fun ops hops hopl => ?_)
          unfold Dsts at hops
          simp (maxSteps:=1000000)(dsimp:=false)(disch:=omega) only [go_sem, Φa, hP, h4_3, h4_4, h4_5, h4_6, h4_10, h4_11, h4_39, hops, hopl]
          refine ⟨_, Cell.at 4 rfl rfl, ?_⟩
          try with_reducible refine stI ?_
          try simp (maxSteps:=1000000)(dsimp:=false)(disch:=omega) only [go_sem, Φa, hP, h4_3, h4_4, h4_5, h4_6, h4_10, h4_11, h4_39, hops, hopl]
          refine ⟨_, Cell.at 4 rfl rfl, ?_⟩
          try with_reducible refine stI ?_
          try simp (maxSteps:=1000000)(dsimp:=false)(disch:=omega) only [go_sem, Φa, hP, h4_3, h4_4, h4_5, h4_6, h4_10, h4_11, h4_39, hops, hopl]
          refine ⟨_, Cell.at 4 rfl rfl, ?_⟩
          try with_reducible refine stI ?_
          try simp (maxSteps:=1000000)(dsimp:=false)(disch:=omega) only [go_sem, Φa, hP, h4_3, h4_4, h4_5, h4_6, h4_10, h4_11, h4_39, hops, hopl]
          refine ⟨_, Cell.at 4 rfl rfl, ?_⟩
          try with_reducible refine stI ?_
          try simp (maxSteps:=1000000)(dsimp:=false)(disch:=omega) only [go_sem, Φa, hP, h4_3, h4_4, h4_5, h4_6, h4_10, h4_11, h4_39, hops, hopl]
          refine ⟨_, Cell.at 4 rfl rfl, ?_⟩
          try with_reducible refine stI ?_
          try simp (maxSteps:=1000000)(dsimp:=false)(disch:=omega) only [go_sem, Φa, hP, h4_3, h4_4, h4_5, h4_6, h4_10, h4_11, h4_39, hops, hopl]
          refine ⟨_, Cell.at 4 rfl rfl, ?_⟩
          try with_reducible refine stI ?_
          try simp (maxSteps:=1000000)(dsimp:=false)(disch:=omega) only [go_sem, Φa, hP, h4_3, h4_4, h4_5, h4_6, h4_10, h4_11, h4_39, hops, hopl]
          refine ⟨_, Cell.at 4 rfl rfl, ?_⟩
          try with_reducible refine stI ?_
          try simp (maxSteps:=1000000)(dsimp:=false)(disch:=omega) only [go_sem, Φa, hP, h4_3, h4_4, h4_5, h4_6, h4_10, h4_11, h4_39, hops, hopl]
          refine ⟨_, Cell.at 4 rfl rfl, ?_⟩
          try with_reducible refine stI ?_
          try simp (maxSteps:=1000000)(dsimp:=false)(disch:=omega) only [go_sem, Φa, hP, h4_3, h4_4, h4_5, h4_6, h4_10, h4_11, h4_39, hops, hopl]
          refine ⟨_, Cell.at 4 rfl rfl, ?_⟩
          try with_reducible refine stI ?_
          try simp (maxSteps:=1000000)(dsimp:=false)(disch:=omega) only [go_sem, Φa, hP, h4_3, h4_4, h4_5, h4_6, h4_10, h4_11, h4_39, hops, hopl]
          refine ⟨_, Cell.at 4 rfl rfl, ?_⟩
          try with_reducible refine stI ?_
          try simp (maxSteps:=1000000)(dsimp:=false)(disch:=omega) only [go_sem, Φa, hP, h4_3, h4_4, h4_5, h4_6, h4_10, h4_11, h4_39, hops, hopl]
          refine ⟨_, Cell.at 4 rfl rfl, ?_⟩
          try with_reducible refine stI ?_
          try simp (maxSteps:=1000000)(dsimp:=false)(disch:=omega) only [go_sem, Φa, hP, h4_3, h4_4, h4_5, h4_6, h4_10, h4_11, h4_39, hops, hopl]
          refine ⟨_, Cell.at 4 rfl rfl, ?_⟩
          try with_reducible refine stI ?_
          try simp (maxSteps:=1000000)(dsimp:=false)(disch:=omega) only [go_sem, Φa, hP, h4_3, h4_4, h4_5, h4_6, h4_10, h4_11, h4_39, hops, hopl]
          refine ⟨_, Cell.at 4 rfl rfl, ?_⟩
          try with_reducible refine stI ?_
          try simp (maxSteps:=1000000)(dsimp:=false)(disch:=omega) only [go_sem, Φa, hP, h4_3, h4_4, h4_5, h4_6, h4_10, h4_11, h4_39, hops, hopl]
          refine ⟨_, Cell.at 4 rfl rfl, ?_⟩
          try with_reducible refine stI ?_
          try simp (maxSteps:=1000000)(dsimp:=false)(disch:=omega) only [go_sem, Φa, hP, h4_3, h4_4, h4_5, h4_6, h4_10, h4_11, h4_39, hops, hopl]
          refine ⟨_, Cell.at 4 rfl rfl, ?_⟩
          try with_reducible refine stI ?_
          try simp (maxSteps:=1000000)(dsimp:=false)(disch:=omega) only [go_sem, Φa, hP, h4_3, h4_4, h4_5, h4_6, h4_10, h4_11, h4_39, hops, hopl]
          refine ⟨_, Cell.at 4 rfl rfl, ?_⟩
          try with_reducible refine stI ?_
          try simp (maxSteps:=1000000)(dsimp:=false)(disch:=omega) only [go_sem, Φa, hP, h4_3, h4_4, h4_5, h4_6, h4_10, h4_11, h4_39, hops, hopl]
          refine ⟨_, Cell.at 4 rfl rfl, ?_⟩
          try with_reducible refine stI ?_
          try simp (maxSteps:=1000000)(dsimp:=false)(disch:=omega) only [go_sem, Φa, hP, h4_3, h4_4, h4_5, h4_6, h4_10, h4_11, h4_39, hops, hopl]
          refine ⟨_, Cell.at 4 rfl rfl, ?_⟩
          try with_reducible refine stI ?_
          try simp (maxSteps:=1000000)(dsimp:=false)(disch:=omega) only [go_sem, Φa, hP, h4_3, h4_4, h4_5, h4_6, h4_10, h4_11, h4_39, hops, hopl]
          refine ⟨_, Cell.at 4 rfl rfl, ?_⟩
          try with_reducible refine stI ?_
          try simp (maxSteps:=1000000)(dsimp:=false)(disch:=omega) only [go_sem, Φa, hP, h4_3, h4_4, h4_5, h4_6, h4_10, h4_11, h4_39, hops, hopl]
          refine ⟨_, Cell.at 4 rfl rfl, ?_⟩
          try with_reducible refine stI ?_
          try simp (maxSteps:=1000000)(dsimp:=false)(disch:=omega) only [go_sem, Φa, hP, h4_3, h4_4, h4_5, h4_6, h4_10, h4_11, h4_39, hops, hopl]
          refine ⟨_, Cell.at 4 rfl rfl, ?_⟩
          try with_reducible refine stI ?_
          try simp (maxSteps:=1000000)(dsimp:=false)(disch:=omega) only [go_sem, Φa, hP, h4_3, h4_4, h4_5, h4_6, h4_10, h4_11, h4_39, hops, hopl]
          refine ⟨_, Cell.at 4 rfl rfl, ?_⟩
          try with_reducible refine stI ?_
          try simp (maxSteps:=1000000)(dsimp:=false)(disch:=omega) only [go_sem, Φa, hP, h4_3, h4_4, h4_5, h4_6, h4_10, h4_11, h4_39, hops, hopl]
          refine ⟨_, Cell.at 4 rfl rfl, ?_⟩
          try with_reducible refine stI ?_
          try simp (maxSteps:=1000000)(dsimp:=false)(disch:=omega) only [go_sem, Φa, hP, h4_3, h4_4, h4_5, h4_6, h4_10, h4_11, h4_39, hops, hopl]
          refine ⟨_, Cell.at 0 rfl rfl, ?_⟩
          try with_reducible refine stI ?_
          try simp (maxSteps:=1000000)(dsimp:=false)(disch:=omega) only [go_sem, Φa, hP, h4_3, h4_4, h4_5, h4_6, h4_10, h4_11, h4_39, hops, hopl]
          refine ⟨_, Cell.at 0 rfl rfl, ?_⟩
          try with_reducible refine stI ?_
          try simp (maxSteps:=1000000)(dsimp:=false)(disch:=omega) only [go_sem, Φa, hP, h4_3, h4_4, h4_5, h4_6, h4_10, h4_11, h4_39, hops, hopl]
          refine ⟨_, Cell.at 0 rfl rfl, ?_⟩
          try with_reducible refine stI ?_
          try simp (maxSteps:=1000000)(dsimp:=false)(disch:=omega) only [go_sem, Φa, hP, h4_3, h4_4, h4_5, h4_6, h4_10, h4_11, h4_39, hops, hopl]
          refine ⟨_, Cell.at 0 rfl rfl, ?_⟩
          try with_reducible refine stI ?_
          try simp (maxSteps:=1000000)(dsimp:=false)(disch:=omega) only [go_sem, Φa, hP, h4_3, h4_4, h4_5, h4_6, h4_10, h4_11, h4_39, hops, hopl]
          refine ⟨_, Cell.at 0 rfl rfl, ?_⟩
          try with_reducible refine stI ?_
          try simp (maxSteps:=1000000)(dsimp:=false)(disch:=omega) only [go_sem, Φa, hP, h4_3, h4_4, h4_5, h4_6, h4_10, h4_11, h4_39, hops, hopl]
          refine ⟨_, Cell.at 0 rfl rfl, ?_⟩
          try with_reducible refine stI ?_
          try simp (maxSteps:=1000000)(dsimp:=false)(disch:=omega) only [go_sem, Φa, hP, h4_3, h4_4, h4_5, h4_6, h4_10, h4_11, h4_39, hops, hopl]
          refine ⟨_, Cell.at 3 rfl rfl, ?_⟩
          try with_reducible refine stI ?_
          try simp (maxSteps:=1000000)(dsimp:=false)(disch:=omega) only [go_sem, Φa, hP, h4_3, h4_4, h4_5, h4_6, h4_10, h4_11, h4_39, hops, hopl]
          refine ⟨_, Cell.at 3 rfl rfl, ?_⟩
          try with_reducible refine stI ?_
          try simp (maxSteps:=1000000)(dsimp:=false)(disch:=omega) only [go_sem, Φa, hP, h4_3, h4_4, h4_5, h4_6, h4_10, h4_11, h4_39, hops, hopl]
          refine ⟨_, Cell.at 3 rfl rfl, ?_⟩
          try with_reducible refine stI ?_
          try simp (maxSteps:=1000000)(dsimp:=false)(disch:=omega) only [go_sem, Φa, hP, h4_3, h4_4, h4_5, h4_6, h4_10, h4_11, h4_39, hops, hopl]
          refine ⟨_, Cell.at 3 rfl rfl, ?_⟩
          try with_reducible refine stI ?_
          try simp (maxSteps:=1000000)(dsimp:=false)(disch:=omega) only [go_sem, Φa, hP, h4_3, h4_4, h4_5, h4_6, h4_10, h4_11, h4_39, hops, hopl]
          refine ⟨_, Cell.at 3 rfl rfl, ?_⟩
          try with_reducible refine stI ?_
          try simp (maxSteps:=1000000)(dsimp:=false)(disch:=omega) only [go_sem, Φa, hP, h4_3, h4_4, h4_5, h4_6, h4_10, h4_11, h4_39, hops, hopl]
          refine ⟨_, Cell.at 3 rfl rfl, ?_⟩
          try with_reducible refine stI ?_
          try simp (maxSteps:=1000000)(dsimp:=false)(disch:=omega) only [go_sem, Φa, hP, h4_3, h4_4, h4_5, h4_6, h4_10, h4_11, h4_39, hops, hopl]
          refine ⟨_, Cell.at 3 rfl rfl, ?_⟩
          try with_reducible refine stI ?_
          try simp (maxSteps:=1000000)(dsimp:=false)(disch:=omega) only [go_sem, Φa, hP, h4_3, h4_4, h4_5, h4_6, h4_10, h4_11, h4_39, hops, hopl]
          refine ⟨_, Cell.at 3 rfl rfl, ?_⟩
          try with_reducible refine stI ?_
          try simp (maxSteps:=1000000)(dsimp:=false)(disch:=omega) only [go_sem, Φa, hP, h4_3, h4_4, h4_5, h4_6, h4_10, h4_11, h4_39, hops, hopl]
          refine ⟨_, Cell.at 3 rfl rfl, ?_⟩
          try with_reducible refine stI ?_
          try simp (maxSteps:=1000000)(dsimp:=false)(disch:=omega) only [go_sem, Φa, hP, h4_3, h4_4, h4_5, h4_6, h4_10, h4_11, h4_39, hops, hopl]
          refine ⟨_, Cell.at 3 rfl rfl, ?_⟩
          try with_reducible refine stI ?_
          try simp (maxSteps:=1000000)(dsimp:=false)(disch:=omega) only [go_sem, Φa, hP, h4_3, h4_4, h4_5, h4_6, h4_10, h4_11, h4_39, hops, hopl]
          refine ⟨_, Cell.at 3 rfl rfl, ?_⟩
          try with_reducible refine stI ?_
          try simp (maxSteps:=1000000)(dsimp:=false)(disch:=omega) only [go_sem, Φa, hP, h4_3, h4_4, h4_5, h4_6, h4_10, h4_11, h4_39, hops, hopl]
          refine ⟨_, Cell.at 3 rfl rfl, ?_⟩
          try with_reducible refine stI ?_
          try simp (maxSteps:=1000000)(dsimp:=false)(disch:=omega) only [go_sem, Φa, hP, h4_3, h4_4, h4_5, h4_6, h4_10, h4_11, h4_39, hops, hopl]
          refine ⟨_, Cell.at 3 rfl rfl, ?_⟩
          try with_reducible refine stI ?_
          try simp (maxSteps:=1000000)(dsimp:=false)(disch:=omega) only [go_sem, Φa, hP, h4_3, h4_4, h4_5, h4_6, h4_10, h4_11, h4_39, hops, hopl]
          refine ⟨_, Cell.at 3 rfl rfl, ?_⟩
          try with_reducible refine stI ?_
          try simp (maxSteps:=1000000)(dsimp:=false)(disch:=omega) only [go_sem, Φa, hP, h4_3, h4_4, h4_5, h4_6, h4_10, h4_11, h4_39, hops, hopl]
          refine ⟨_, Cell.at 3 rfl rfl, ?_⟩
          try with_reducible refine stI ?_
          try simp (maxSteps:=1000000)(dsimp:=false)(disch:=omega) only [go_sem, Φa, hP, h4_3, h4_4, h4_5, h4_6, h4_10, h4_11, h4_39, hops, hopl]
          refine ⟨_, Cell.at 3 rfl rfl, ?_⟩
          try with_reducible refine stI ?_
          try simp (maxSteps:=1000000)(dsimp:=false)(disch:=omega) only [go_sem, Φa, hP, h4_3, h4_4, h4_5, h4_6, h4_10, h4_11, h4_39, hops, hopl]
          refine ⟨_, Cell.at 3 rfl rfl, ?_⟩
          try with_reducible refine stI ?_
          try simp (maxSteps:=1000000)(dsimp:=false)(disch:=omega) only [go_sem, Φa, hP, h4_3, h4_4, h4_5, h4_6, h4_10, h4_11, h4_39, hops, hopl]
          refine ⟨_, Cell.at 3 rfl rfl, ?_⟩
          try with_reducible refine stI ?_
          try simp (maxSteps:=1000000)(dsimp:=false)(disch:=omega) only [go_sem, Φa, hP, h4_3, h4_4, h4_5, h4_6, h4_10, h4_11, h4_39, hops, hopl]
          refine ⟨_, Cell.at 2 rfl rfl, ?_⟩
          try with_reducible refine stI ?_
          try simp (maxSteps:=1000000)(dsimp:=false)(disch:=omega) only [go_sem, Φa, hP, h4_3, h4_4, h4_5, h4_6, h4_10, h4_11, h4_39, hops, hopl]
          refine ⟨_, Cell.at 2 rfl rfl, ?_⟩
          try with_reducible refine stI ?_
          try simp (maxSteps:=1000000)(dsimp:=false)(disch:=omega) only [go_sem, Φa, hP, h4_3, h4_4, h4_5, h4_6, h4_10, h4_11, h4_39, hops, hopl]
          refine ⟨_, Cell.at 2 rfl rfl, ?_⟩
          try with_reducible refine stI ?_
          try simp (maxSteps:=1000000)(dsimp:=false)(disch:=omega) only [go_sem, Φa, hP, h4_3, h4_4, h4_5, h4_6, h4_10, h4_11, h4_39, hops, hopl]
          refine SCall.mono (clone_spec (g := g) (sv := .slice As g.st.length cs) (pv := .slice Ap g.pg.length cp) (mv := .slice Am g.mm.length cm) hP (SlI.cons _ (SlI.cons _ (SlI.cons _ (SlI.cons _ (SlI.cons _ hs))))) (SlI.cons _ (SlI.cons _ (SlI.cons _ (SlI.cons _ (SlI.cons _ hp))))) (SlI.cons _ (SlI.cons _ (SlI.cons _ (SlI.cons _ (SlI.cons _ hm))))) hsl2 hpl2 hml2) ?_
          rintro v_ L_ ⟨sv1, pv1, mv1, t1, t2, t3, rfl, rfl, hrc⟩
          obtain ⟨Y1, y1, rfl, hy1⟩ := rowShape hrc.st
          obtain ⟨Y2, y2, rfl, hy2⟩ := rowShape hrc.pg
          obtain ⟨Y3, y3, rfl, hy3⟩ := rowShape hrc.mm
          unfold GM.cells
          try with_reducible refine stI ?_
          try simp (maxSteps:=1000000)(dsimp:=false)(disch:=omega) only [go_sem, Φa, hP, h4_3, h4_4, h4_5, h4_6, h4_10, h4_11, h4_39, hops, hopl]
          refine And.intro (Less.drops (Less.drops (Less.drop _ _))) ?_
          try with_reducible refine stI ?_
          try simp (maxSteps:=1000000)(dsimp:=false)(disch:=omega) only [go_sem, Φa, hP, h4_3, h4_4, h4_5, h4_6, h4_10, h4_11, h4_39, hops, hopl]
          intro bp
          try with_reducible refine stI ?_
          try simp (maxSteps:=1000000)(dsimp:=false)(disch:=omega) only [go_sem, Φa, hP, h4_3, h4_4, h4_5, h4_6, h4_10, h4_11, h4_39, hops, hopl]
          try refine And.intro (Less.drop _ _) ?_
          try with_reducible refine stI ?_
          try simp (maxSteps:=1000000)(dsimp:=false)(disch:=omega) only [go_sem, Φa, hP, h4_3, h4_4, h4_5, h4_6, h4_10, h4_11, h4_39, hops, hopl]
          refine hK17 _ _ ?_
          try clear hK17 K17
          refine SX.seq_k fun K18 hK18 => ?_
          refine SX.region_d [some 50, some 51, some 52, some 53, some 54, some 55, some 56, some 57, some 58, none] rfl (fun ops hops => ?_)
          unfold Dsts at hops
          simp (maxSteps:=1000000)(dsimp:=false)(disch:=omega) only [go_sem, Φa, hP, h4_3, h4_4, h4_5, h4_6, h4_10, h4_11, h4_39, hops]
          repeat' ((first | refine ⟨_, Cell.at 0 rfl rfl, ?_⟩ | refine ⟨_, Cell.at 1 rfl rfl, ?_⟩ | refine ⟨_, Cell.at 2 rfl rfl, ?_⟩ | refine ⟨_, Cell.at 3 rfl rfl, ?_⟩ | refine ⟨0, _, _, _, rfl, (by first | decide | omega | simp), .inr (by first | decide | omega | simp), ?_⟩ | refine ⟨1, _, _, _, rfl, (by first | decide | omega | simp), .inr (by first | decide | omega | simp), ?_⟩ | refine ⟨2, _, _, _, rfl, (by first | decide | omega | simp), .inr (by first | decide | omega | simp), ?_⟩ | refine ⟨3, _, _, _, rfl, (by first | decide | omega | simp), .inr (by first | decide | omega | simp), ?_⟩ | refine And.intro (by omega) ?_ | fail); try (with_reducible refine stI ?_); try simp (maxSteps:=1000000)(dsimp:=false)(disch:=omega) only [go_sem, Φa, hP, h4_3, h4_4, h4_5, h4_6, h4_10, h4_11, h4_39, hops])
          refine hK18 _ _ ?_
          try clear hK18 K18
          refine SX.live [3, 6, 10, 12] (fun T5 hT5 => ?_)
          simp only [forall_mem_cons', forall_mem_nil', go_sem, Φa, hP, h4_3, h4_4, h4_5, h4_6, h4_10, h4_11, h4_39] at hT5
          obtain ⟨h5_3, h5_6, h5_10, h5_12⟩ := hT5
          clear h4_3 h4_4 h4_5 h4_6 h4_10 h4_11 h4_39 T4
          refine SX.seq_k fun K19 hK19 => ?_
          refine SX.seq_k fun K20 hK20 => ?_
          have hdec := (nextG_dec (g := g) (by simpa using hc39)).1
          have hop2 := (nextG_dec (g := g) (by simpa using hc39)).2
          have hop3 : (nextG g).1.op ≤ 31 := hdec.op2
          have hoo : OkO (nextG g).1 := hdec.ok
          have hox : (nextG g).1.x < 16 := hdec.x
          have hoy : (nextG g).1.y < 16 := hdec.y
          have hon : (nextG g).1.n < 16 := hdec.n
          have hst3 : g.st.length ≤ 12 := by unfold checkE at hc16; split at hc16 <;> omega
          have hml3 : g.mm.length = 3232 := by unfold checkE at hc16; split at hc16 <;> omega
          have hpl3 : g.pg.length = 256 := by unfold checkE at hc16; split at hc16 <;> omega
          have hg1 : OkG { g with PC := IntKind.u16.wrap (g.PC + 2) } := ⟨hg.V, hg.Vb, hg.I, by
              show 0 ≤ IntKind.u16.wrap (g.PC + 2) ∧ IntKind.u16.wrap (g.PC + 2) ≤ 65535
              rw [IntKind.wrap_u16]
              omega, hg.st, hg.dl, hg.sd, hg.pg, hg.mm⟩
          refine SX.drawn_d [(1, .q), (2, .q), (4, .q), (0, .e), (3, .q), (5, .t), (6, .t)] (fun L => L) (hP ▸ T.mixed) (by kernel_rfl) (by exact Less.refl _) [some 59, some 60, some 61, some 62, some 63, some 64, some 11] rfl (fun ops hops hopl => ?_)
          unfold Dsts at hops
          simp (maxSteps:=1000000)(dsimp:=false)(disch:=omega) only [go_sem, Φa, hP, h5_3, h5_6, h5_10, h5_12, hops, hopl]
          refine ⟨_, Cell.at 4 rfl rfl, ?_⟩
          try with_reducible refine stI ?_
          try simp (maxSteps:=1000000)(dsimp:=false)(disch:=omega) only [go_sem, Φa, hP, h5_3, h5_6, h5_10, h5_12, hops, hopl]
          refine SCall.mono (deeds_spec hP) ?_
          rintro v_ L_ ⟨bm, rfl, rfl⟩
          try with_reducible refine stI ?_
          try simp (maxSteps:=1000000)(dsimp:=false)(disch:=omega) only [go_sem, Φa, hP, h5_3, h5_6, h5_10, h5_12, hops, hopl]
          refine ⟨_, _, rfl, 0, _, _, rfl, _, deed_at hop2 hop3, ?_⟩
          try with_reducible refine stI ?_
          try simp (maxSteps:=1000000)(dsimp:=false)(disch:=omega) only [go_sem, Φa, hP, h5_3, h5_6, h5_10, h5_12, hops, hopl]
          refine And.intro (deed_callable hop2 hop3) ?_
          refine SCall.mono (SCall.of_less (Less.drop _ _) (do_spec (g := { g with PC := IntKind.u16.wrap (g.PC + 2) }) (o := (nextG g).1) (f := f) (d := d) hP hg1 ⟨hrc.st, hrc.pg, hrc.mm⟩ hoo hox hoy hd hst3 hon hml3 hpl3 (SlI.cons _ (SlI.cons _ (SlI.cons _ (SlI.cons _ (SlI.cons _ hf))))) (by simp at hc31; omega) hfrb hop2 hop3)) ?_
          rintro v_ L_ ⟨rfl, sv2, pv2, mv2, u1, u2, u3, rfl, hr2⟩
          try with_reducible refine stI ?_
          try simp (maxSteps:=1000000)(dsimp:=false)(disch:=omega) only [go_sem, Φa, hP, h5_3, h5_6, h5_10, h5_12, hops, hopl]
          refine hK20 _ _ ?_
          try clear hK20 K20
          refine SX.seq_k fun K21 hK21 => ?_
          refine SX.region_d [some 65, some 66] rfl (fun ops hops => ?_)
          unfold Dsts at hops
          simp (maxSteps:=1000000)(dsimp:=false)(disch:=omega) only [go_sem, Φa, hP, h5_3, h5_6, h5_10, h5_12, hops]
          repeat' ((first | refine And.intro (by omega) ?_ | fail); try (with_reducible refine stI ?_); try simp (maxSteps:=1000000)(dsimp:=false)(disch:=omega) only [go_sem, Φa, hP, h5_3, h5_6, h5_10, h5_12, hops])
          refine hK21 _ _ ?_
          try clear hK21 K21
          refine SX.live [3, 6, 11, 12, 66] (fun T6 hT6 => ?_)
          simp only [forall_mem_cons', forall_mem_nil', go_sem, Φa, hP, h5_3, h5_6, h5_10, h5_12] at hT6
          obtain ⟨h6_3, h6_6, h6_11, h6_12, h6_66⟩ := hT6
          clear h5_3 h5_6 h5_10 h5_12 T5
          refine SX.cond_k fun X22 Y22 hX22 hY22 => ?_
          simp (maxSteps:=1000000)(dsimp:=false)(disch:=omega) only [go_sem, Φa, hP, h6_3, h6_6, h6_11, h6_12, h6_66, condVC]
          refine ⟨fun hc66 => hX22 ?_, fun hc66 => hY22 ?_⟩
          · clear hX22 hY22 X22 Y22
            refine SX.seq_k fun K23 hK23 => ?_
            refine SX.region_d [some 67, some 68, some 69, none, some 7, some 8] rfl (fun ops hops => ?_)
            unfold Dsts at hops
            simp (maxSteps:=1000000)(dsimp:=false)(disch:=omega) only [go_sem, Φa, hP, h6_3, h6_6, h6_11, h6_12, h6_66, hops]
            refine ⟨_, Cell.at 8 rfl rfl, ?_⟩
            try with_reducible refine stI ?_
            try simp (maxSteps:=1000000)(dsimp:=false)(disch:=omega) only [go_sem, Φa, hP, h6_3, h6_6, h6_11, h6_12, h6_66, hops]
            refine ⟨_, Cell.at 8 rfl rfl, ?_⟩
            try with_reducible refine stI ?_
            try simp (maxSteps:=1000000)(dsimp:=false)(disch:=omega) only [go_sem, Φa, hP, h6_3, h6_6, h6_11, h6_12, h6_66, hops]
            refine ⟨_, Cell.at 8 rfl rfl, ?_⟩
            try with_reducible refine stI ?_
            try simp (maxSteps:=1000000)(dsimp:=false)(disch:=omega) only [go_sem, Φa, hP, h6_3, h6_6, h6_11, h6_12, h6_66, hops]
            refine ⟨_, Cell.at 8 rfl rfl, ?_⟩
            try with_reducible refine stI ?_
            try simp (maxSteps:=1000000)(dsimp:=false)(disch:=omega) only [go_sem, Φa, hP, h6_3, h6_6, h6_11, h6_12, h6_66, hops]
            refine ⟨_, Cell.at 8 rfl rfl, ?_⟩
            try with_reducible refine stI ?_
            try simp (maxSteps:=1000000)(dsimp:=false)(disch:=omega) only [go_sem, Φa, hP, h6_3, h6_6, h6_11, h6_12, h6_66, hops]
            refine ⟨_, Cell.at 8 rfl rfl, ?_⟩
            try with_reducible refine stI ?_
            try simp (maxSteps:=1000000)(dsimp:=false)(disch:=omega) only [go_sem, Φa, hP, h6_3, h6_6, h6_11, h6_12, h6_66, hops]
            refine ⟨_, Cell.at 8 rfl rfl, ?_⟩
            try with_reducible refine stI ?_
            try simp (maxSteps:=1000000)(dsimp:=false)(disch:=omega) only [go_sem, Φa, hP, h6_3, h6_6, h6_11, h6_12, h6_66, hops]
            refine ⟨_, Cell.at 8 rfl rfl, ?_⟩
            try with_reducible refine stI ?_
            try simp (maxSteps:=1000000)(dsimp:=false)(disch:=omega) only [go_sem, Φa, hP, h6_3, h6_6, h6_11, h6_12, h6_66, hops]
            refine ⟨_, Cell.at 8 rfl rfl, ?_⟩
            try with_reducible refine stI ?_
            try simp (maxSteps:=1000000)(dsimp:=false)(disch:=omega) only [go_sem, Φa, hP, h6_3, h6_6, h6_11, h6_12, h6_66, hops]
            refine ⟨_, Cell.at 8 rfl rfl, ?_⟩
            try with_reducible refine stI ?_
            try simp (maxSteps:=1000000)(dsimp:=false)(disch:=omega) only [go_sem, Φa, hP, h6_3, h6_6, h6_11, h6_12, h6_66, hops]
            refine ⟨_, Cell.at 8 rfl rfl, ?_⟩
            try with_reducible refine stI ?_
            try simp (maxSteps:=1000000)(dsimp:=false)(disch:=omega) only [go_sem, Φa, hP, h6_3, h6_6, h6_11, h6_12, h6_66, hops]
            refine ⟨_, Cell.at 8 rfl rfl, ?_⟩
            try with_reducible refine stI ?_
            try simp (maxSteps:=1000000)(dsimp:=false)(disch:=omega) only [go_sem, Φa, hP, h6_3, h6_6, h6_11, h6_12, h6_66, hops]
            refine ⟨_, Cell.at 8 rfl rfl, ?_⟩
            try with_reducible refine stI ?_
            try simp (maxSteps:=1000000)(dsimp:=false)(disch:=omega) only [go_sem, Φa, hP, h6_3, h6_6, h6_11, h6_12, h6_66, hops]
            refine ⟨_, Cell.at 8 rfl rfl, ?_⟩
            try with_reducible refine stI ?_
            try simp (maxSteps:=1000000)(dsimp:=false)(disch:=omega) only [go_sem, Φa, hP, h6_3, h6_6, h6_11, h6_12, h6_66, hops]
            refine ⟨_, Cell.at 8 rfl rfl, ?_⟩
            try with_reducible refine stI ?_
            try simp (maxSteps:=1000000)(dsimp:=false)(disch:=omega) only [go_sem, Φa, hP, h6_3, h6_6, h6_11, h6_12, h6_66, hops]
            refine ⟨_, Cell.at 8 rfl rfl, ?_⟩
            try with_reducible refine stI ?_
            try simp (maxSteps:=1000000)(dsimp:=false)(disch:=omega) only [go_sem, Φa, hP, h6_3, h6_6, h6_11, h6_12, h6_66, hops]
            refine ⟨_, Cell.at 8 rfl rfl, ?_⟩
            try with_reducible refine stI ?_
            try simp (maxSteps:=1000000)(dsimp:=false)(disch:=omega) only [go_sem, Φa, hP, h6_3, h6_6, h6_11, h6_12, h6_66, hops]
            refine ⟨_, Cell.at 8 rfl rfl, ?_⟩
            try with_reducible refine stI ?_
            try simp (maxSteps:=1000000)(dsimp:=false)(disch:=omega) only [go_sem, Φa, hP, h6_3, h6_6, h6_11, h6_12, h6_66, hops]
            refine ⟨_, Cell.at 8 rfl rfl, ?_⟩
            try with_reducible refine stI ?_
            try simp (maxSteps:=1000000)(dsimp:=false)(disch:=omega) only [go_sem, Φa, hP, h6_3, h6_6, h6_11, h6_12, h6_66, hops]
            refine ⟨_, Cell.at 8 rfl rfl, ?_⟩
            try with_reducible refine stI ?_
            try simp (maxSteps:=1000000)(dsimp:=false)(disch:=omega) only [go_sem, Φa, hP, h6_3, h6_6, h6_11, h6_12, h6_66, hops]
            refine ⟨_, Cell.at 8 rfl rfl, ?_⟩
            try with_reducible refine stI ?_
            try simp (maxSteps:=1000000)(dsimp:=false)(disch:=omega) only [go_sem, Φa, hP, h6_3, h6_6, h6_11, h6_12, h6_66, hops]
            refine ⟨_, Cell.at 8 rfl rfl, ?_⟩
            try with_reducible refine stI ?_
            try simp (maxSteps:=1000000)(dsimp:=false)(disch:=omega) only [go_sem, Φa, hP, h6_3, h6_6, h6_11, h6_12, h6_66, hops]
            refine ⟨_, Cell.at 8 rfl rfl, ?_⟩
            try with_reducible refine stI ?_
            try simp (maxSteps:=1000000)(dsimp:=false)(disch:=omega) only [go_sem, Φa, hP, h6_3, h6_6, h6_11, h6_12, h6_66, hops]
            refine SCall.mono (clone_spec (g := g) (sv := .slice As g.st.length cs) (pv := .slice Ap g.pg.length cp) (mv := .slice Am g.mm.length cm) hP (SlI.cons _ (SlI.cons _ (SlI.cons _ (SlI.cons _ (SlI.cons _ (SlI.cons _ (SlI.cons _ (SlI.cons _ (SlI.cons _ hs))))))))) (SlI.cons _ (SlI.cons _ (SlI.cons _ (SlI.cons _ (SlI.cons _ (SlI.cons _ (SlI.cons _ (SlI.cons _ (SlI.cons _ hp))))))))) (SlI.cons _ (SlI.cons _ (SlI.cons _ (SlI.cons _ (SlI.cons _ (SlI.cons _ (SlI.cons _ (SlI.cons _ (SlI.cons _ hm))))))))) hsl2 hpl2 hml2) ?_
            rintro v_ L_ ⟨sv', pv', mv', t1', t2', t3', rfl, rfl, hrc'⟩
            obtain ⟨Z1, z1, rfl, hz1⟩ := rowShape hrc'.st
            obtain ⟨Z2, z2, rfl, hz2⟩ := rowShape hrc'.pg
            obtain ⟨Z3, z3, rfl, hz3⟩ := rowShape hrc'.mm
            unfold GM.cells
            try with_reducible refine stI ?_
            try simp (maxSteps:=1000000)(dsimp:=false)(disch:=omega) only [go_sem, Φa, hP, h6_3, h6_6, h6_11, h6_12, h6_66, hops]
            refine ⟨8, _, _, _, rfl, by decide, .inr (by decide), ?_⟩
            try with_reducible refine stI ?_
            try simp (maxSteps:=1000000)(dsimp:=false)(disch:=omega) only [go_sem, Φa, hP, h6_3, h6_6, h6_11, h6_12, h6_66, hops]
            refine hK23 _ _ ?_
            try clear hK23 K23
            refine SX.ret ?_
            simp only [andThen_normal, andThen_ret, andThen_exit, inBlk_normal, inBlk_ret, inBlk_exit, Nat.reduceEqDiff, if_true, if_false, ↓reduceIte, retQ_ret]
            try simp only [res0,res1,res2,res3,stK_e,resX,resK,oneOr,ld_ptr,loadVC,loadN,List.nil_append,List.cons_append,Nat.reduceAdd,Nat.add_zero,Nat.zero_add,Addr.add_lit,Addr.add_zero',add_addS,T.elA_29,T.lay_29,T.szA_29,T.zr_29,Try.underlying29,go_sem,Φa,hP,h6_3,h6_6,h6_11,h6_12,h6_66]
            refine ⟨_, _, Less.sublist (.cons_cons _ (.cons_cons _ (.cons_cons _ (.cons _ (.cons _ (.cons _ (.cons _ (.cons _ (.cons _ (.cons _ (.cons _ (.cons _ (List.Sublist.refl _))))))))))))), ⟨_, Cell.at 8 rfl rfl, _, Cell.at 8 rfl rfl, _, Cell.at 8 rfl rfl, _, Cell.at 8 rfl rfl, _, Cell.at 8 rfl rfl, _, Cell.at 8 rfl rfl, _, Cell.at 8 rfl rfl, _, Cell.at 8 rfl rfl, _, Cell.at 8 rfl rfl, _, Cell.at 8 rfl rfl, _, Cell.at 8 rfl rfl, _, Cell.at 8 rfl rfl, _, Cell.at 8 rfl rfl, _, Cell.at 8 rfl rfl, _, Cell.at 8 rfl rfl, _, Cell.at 8 rfl rfl, _, Cell.at 8 rfl rfl, _, Cell.at 8 rfl rfl, _, Cell.at 8 rfl rfl, _, Cell.at 8 rfl rfl, _, Cell.at 8 rfl rfl, _, Cell.at 8 rfl rfl, _, Cell.at 8 rfl rfl, rfl⟩, ?_⟩
            unfold stepG
            rw [if_neg (by omega), if_neg (by simp at hc31; omega), if_neg (by simpa using hc39)]
            dsimp only
            rw [if_pos (by simpa using hc66)]
            exact ⟨_, _, _, t1', t2', t3', rfl, rfl, hrc'⟩
          · clear hX22 hY22 X22 Y22
            refine SX.skip ?_
            try simp only [andThen_normal, andThen_ret, andThen_exit, inBlk_normal, inBlk_ret, inBlk_exit, Nat.reduceEqDiff, if_true, if_false, ↓reduceIte]
            refine hK19 _ _ ?_
            try clear hK19 K19
            refine SX.seq_k fun K24 hK24 => ?_
            obtain ⟨Z1, z1, rfl, hz1⟩ := rowShape hr2.st
            obtain ⟨Z2, z2, rfl, hz2⟩ := rowShape hr2.pg
            obtain ⟨Z3, z3, rfl, hz3⟩ := rowShape hr2.mm
            refine SX.region_d [some 70, some 71, some 72, some 73, none, some 7, some 8] rfl (fun ops hops => ?_)
            unfold Dsts at hops
            simp (maxSteps:=1000000)(dsimp:=false)(disch:=omega) only [go_sem, Φa, hP, h6_3, h6_6, h6_11, h6_12, h6_66, hops]
            refine ⟨_, Cell.at 0 rfl rfl, ?_⟩
            try with_reducible refine stI ?_
            try simp (maxSteps:=1000000)(dsimp:=false)(disch:=omega) only [go_sem, Φa, hP, h6_3, h6_6, h6_11, h6_12, h6_66, hops]
            refine ⟨_, Cell.at 0 rfl rfl, ?_⟩
            try with_reducible refine stI ?_
            try simp (maxSteps:=1000000)(dsimp:=false)(disch:=omega) only [go_sem, Φa, hP, h6_3, h6_6, h6_11, h6_12, h6_66, hops]
            refine ⟨_, Cell.at 0 rfl rfl, ?_⟩
            try with_reducible refine stI ?_
            try simp (maxSteps:=1000000)(dsimp:=false)(disch:=omega) only [go_sem, Φa, hP, h6_3, h6_6, h6_11, h6_12, h6_66, hops]
            refine ⟨_, Cell.at 0 rfl rfl, ?_⟩
            try with_reducible refine stI ?_
            try simp (maxSteps:=1000000)(dsimp:=false)(disch:=omega) only [go_sem, Φa, hP, h6_3, h6_6, h6_11, h6_12, h6_66, hops]
            refine ⟨_, Cell.at 0 rfl rfl, ?_⟩
            try with_reducible refine stI ?_
            try simp (maxSteps:=1000000)(dsimp:=false)(disch:=omega) only [go_sem, Φa, hP, h6_3, h6_6, h6_11, h6_12, h6_66, hops]
            refine ⟨_, Cell.at 0 rfl rfl, ?_⟩
            try with_reducible refine stI ?_
            try simp (maxSteps:=1000000)(dsimp:=false)(disch:=omega) only [go_sem, Φa, hP, h6_3, h6_6, h6_11, h6_12, h6_66, hops]
            refine ⟨_, Cell.at 0 rfl rfl, ?_⟩
            try with_reducible refine stI ?_
            try simp (maxSteps:=1000000)(dsimp:=false)(disch:=omega) only [go_sem, Φa, hP, h6_3, h6_6, h6_11, h6_12, h6_66, hops]
            refine ⟨_, Cell.at 0 rfl rfl, ?_⟩
            try with_reducible refine stI ?_
            try simp (maxSteps:=1000000)(dsimp:=false)(disch:=omega) only [go_sem, Φa, hP, h6_3, h6_6, h6_11, h6_12, h6_66, hops]
            refine ⟨_, Cell.at 0 rfl rfl, ?_⟩
            try with_reducible refine stI ?_
            try simp (maxSteps:=1000000)(dsimp:=false)(disch:=omega) only [go_sem, Φa, hP, h6_3, h6_6, h6_11, h6_12, h6_66, hops]
            refine ⟨_, Cell.at 0 rfl rfl, ?_⟩
            try with_reducible refine stI ?_
            try simp (maxSteps:=1000000)(dsimp:=false)(disch:=omega) only [go_sem, Φa, hP, h6_3, h6_6, h6_11, h6_12, h6_66, hops]
            refine ⟨_, Cell.at 0 rfl rfl, ?_⟩
            try with_reducible refine stI ?_
            try simp (maxSteps:=1000000)(dsimp:=false)(disch:=omega) only [go_sem, Φa, hP, h6_3, h6_6, h6_11, h6_12, h6_66, hops]
            refine ⟨_, Cell.at 0 rfl rfl, ?_⟩
            try with_reducible refine stI ?_
            try simp (maxSteps:=1000000)(dsimp:=false)(disch:=omega) only [go_sem, Φa, hP, h6_3, h6_6, h6_11, h6_12, h6_66, hops]
            refine ⟨_, Cell.at 0 rfl rfl, ?_⟩
            try with_reducible refine stI ?_
            try simp (maxSteps:=1000000)(dsimp:=false)(disch:=omega) only [go_sem, Φa, hP, h6_3, h6_6, h6_11, h6_12, h6_66, hops]
            refine ⟨_, Cell.at 0 rfl rfl, ?_⟩
            try with_reducible refine stI ?_
            try simp (maxSteps:=1000000)(dsimp:=false)(disch:=omega) only [go_sem, Φa, hP, h6_3, h6_6, h6_11, h6_12, h6_66, hops]
            refine ⟨_, Cell.at 0 rfl rfl, ?_⟩
            try with_reducible refine stI ?_
            try simp (maxSteps:=1000000)(dsimp:=false)(disch:=omega) only [go_sem, Φa, hP, h6_3, h6_6, h6_11, h6_12, h6_66, hops]
            refine ⟨_, Cell.at 0 rfl rfl, ?_⟩
            try with_reducible refine stI ?_
            try simp (maxSteps:=1000000)(dsimp:=false)(disch:=omega) only [go_sem, Φa, hP, h6_3, h6_6, h6_11, h6_12, h6_66, hops]
            refine ⟨_, Cell.at 0 rfl rfl, ?_⟩
            try with_reducible refine stI ?_
            try simp (maxSteps:=1000000)(dsimp:=false)(disch:=omega) only [go_sem, Φa, hP, h6_3, h6_6, h6_11, h6_12, h6_66, hops]
            refine ⟨_, Cell.at 0 rfl rfl, ?_⟩
            try with_reducible refine stI ?_
            try simp (maxSteps:=1000000)(dsimp:=false)(disch:=omega) only [go_sem, Φa, hP, h6_3, h6_6, h6_11, h6_12, h6_66, hops]
            refine ⟨_, Cell.at 0 rfl rfl, ?_⟩
            try with_reducible refine stI ?_
            try simp (maxSteps:=1000000)(dsimp:=false)(disch:=omega) only [go_sem, Φa, hP, h6_3, h6_6, h6_11, h6_12, h6_66, hops]
            refine ⟨_, Cell.at 0 rfl rfl, ?_⟩
            try with_reducible refine stI ?_
            try simp (maxSteps:=1000000)(dsimp:=false)(disch:=omega) only [go_sem, Φa, hP, h6_3, h6_6, h6_11, h6_12, h6_66, hops]
            refine ⟨_, Cell.at 0 rfl rfl, ?_⟩
            try with_reducible refine stI ?_
            try simp (maxSteps:=1000000)(dsimp:=false)(disch:=omega) only [go_sem, Φa, hP, h6_3, h6_6, h6_11, h6_12, h6_66, hops]
            refine ⟨_, Cell.at 0 rfl rfl, ?_⟩
            try with_reducible refine stI ?_
            try simp (maxSteps:=1000000)(dsimp:=false)(disch:=omega) only [go_sem, Φa, hP, h6_3, h6_6, h6_11, h6_12, h6_66, hops]
            refine ⟨_, Cell.at 0 rfl rfl, ?_⟩
            try with_reducible refine stI ?_
            try simp (maxSteps:=1000000)(dsimp:=false)(disch:=omega) only [go_sem, Φa, hP, h6_3, h6_6, h6_11, h6_12, h6_66, hops]
            refine ⟨5, _, _, _, rfl, by decide, .inr (by decide), ?_⟩
            try with_reducible refine stI ?_
            try simp (maxSteps:=1000000)(dsimp:=false)(disch:=omega) only [go_sem, Φa, hP, h6_3, h6_6, h6_11, h6_12, h6_66, hops]
            refine hK24 _ _ ?_
            try clear hK24 K24
            refine SX.ret ?_
            simp only [andThen_normal, andThen_ret, andThen_exit, inBlk_normal, inBlk_ret, inBlk_exit, Nat.reduceEqDiff, if_true, if_false, ↓reduceIte, retQ_ret]
            try simp only [res0,res1,res2,res3,stK_e,resX,resK,oneOr,ld_ptr,loadVC,loadN,List.nil_append,List.cons_append,Nat.reduceAdd,Nat.add_zero,Nat.zero_add,Addr.add_lit,Addr.add_zero',add_addS,T.elA_29,T.lay_29,T.szA_29,T.zr_29,Try.underlying29,go_sem,Φa,hP,h6_3,h6_6,h6_11,h6_12,h6_66]
            refine ⟨_, _, Less.sublist (.cons _ (.cons_cons _ (.cons_cons _ (.cons_cons _ (.cons _ (.cons _ (.cons _ (.cons _ (.cons _ (List.Sublist.refl _)))))))))), ⟨_, Cell.at 5 rfl rfl, _, Cell.at 5 rfl rfl, _, Cell.at 5 rfl rfl, _, Cell.at 5 rfl rfl, _, Cell.at 5 rfl rfl, _, Cell.at 5 rfl rfl, _, Cell.at 5 rfl rfl, _, Cell.at 5 rfl rfl, _, Cell.at 5 rfl rfl, _, Cell.at 5 rfl rfl, _, Cell.at 5 rfl rfl, _, Cell.at 5 rfl rfl, _, Cell.at 5 rfl rfl, _, Cell.at 5 rfl rfl, _, Cell.at 5 rfl rfl, _, Cell.at 5 rfl rfl, _, Cell.at 5 rfl rfl, _, Cell.at 5 rfl rfl, _, Cell.at 5 rfl rfl, _, Cell.at 5 rfl rfl, _, Cell.at 5 rfl rfl, _, Cell.at 5 rfl rfl, _, Cell.at 5 rfl rfl, rfl⟩, ?_⟩
            unfold stepG
            rw [if_neg (by omega), if_neg (by simp at hc31; omega), if_neg (by simpa using hc39)]
            dsimp only
            rw [if_neg (by simpa using hc66)]
            exact ⟨_, _, _, u1, u2, u3, rfl, rfl, hr2⟩

end Go.Proofs.Ytgioegdjeodpiaa
set_option linter.unusedVariables false
set_option linter.unusedSimpArgs false
universe u
namespace Go.SX
open Go.RowKit
/-! A region whose operations with effects may come in several orders: a tree of plans. -/
/-- What comes next: .q quiet, .c a pure call, taken early; .e k r s: k may be next, then r, or else one of s; .z none else; .t an effect behind which nothing early stands. -/
inductive Tr where
  | nil | z
  | q (k : Nat) (r : Tr) | c (k : Nat) (r : Tr) | e (k : Nat) (r s : Tr) | t (k : Nat) (r : Tr)
def Tr.alts : Tr → List Nat
  | .e k _ s => k :: s.alts
  | _ => []
def okTr (ops : Array Oper) (tl : List Nat) : Bool → Bool → Tr → Array Bool → Bool
  | hd, _, .nil, listed => hd && (Region.ready .any ops listed).isEmpty
  | hd, _, .z, _ => !hd
  | hd, td, .q k r, listed => hd && !td && (Region.ready .any ops listed).contains k && Region.free .any ops listed k && notCall ops k && tl.all (fun t => reach ops ops.size t k) && okTr ops tl true td r (listed.setIfInBounds k true)
  | hd, td, .c k r, listed => hd && !td && (Region.ready .any ops listed).contains k && Region.free .any ops listed k && tl.all (fun t => reach ops ops.size t k) && okTr ops tl true td r (listed.setIfInBounds k true)
  | hd, td, .e k r s, listed => (!hd || (Region.ready .any ops listed).all (fun i => (Tr.e k r s).alts.contains i)) && !td && !tl.contains k && (Region.ready .any ops listed).contains k && okTr ops tl true td r (listed.setIfInBounds k true) && okTr ops tl false td s listed
  | hd, _, .t k r, listed => hd && decide (Region.ready .any ops listed = [k]) && tl.contains k && okTr ops tl true true r (listed.setIfInBounds k true)
def Tr.size : Tr → Nat
  | .nil => 0 | .z => 0 | .q _ r => r.size + 1 | .c _ r => r.size + 1 | .e _ r _ => r.size + 1 | .t _ r => r.size + 1
def Tr.even (n : Nat) : Tr → Bool
  | .nil => n == 0 | .z => true | .q _ r => n != 0 && r.even (n - 1) | .c _ r => n != 0 && r.even (n - 1) | .e _ r s => n != 0 && r.even (n - 1) && s.even n | .t _ r => n != 0 && r.even (n - 1)
def Tr.tails : Tr → List Nat
  | .nil => [] | .z => [] | .q _ r => r.tails | .c _ r => r.tails | .e _ r _ => r.tails | .t k r => k :: r.tails
def treeB (ops : Array Oper) (pl : Tr) : Bool := Region.noSelect ops && pl.even ops.size && okTr ops pl.tails true false pl (Array.replicate ops.size false)
def VCtree (Γ : Ctx) (n : Nat) (ops : Array Oper) : Tr → (Env → Hp → Prop) → Env → Hp → Prop
  | .nil, K, T, L => K T L
  | .z, _, _, _ => True
  | .q k r, K, T, L => oM (ops.toList[k]?) (fun o => guardVC ops o.guard T (fun T => VQ Γ o T L (fun v => putVC n o.dst v T (fun T => VCtree Γ n ops r K T L))) (fun T => putVC n o.dst undef T (fun T => VCtree Γ n ops r K T L))) False
  | .c k r, K, T, L => oM (ops.toList[k]?) (fun o => guardVC ops o.guard T (fun T => ∃ v, (∀ L0, Less L0 L → VC Γ o T L0 (fun u L1 => u = v ∧ L1 = L0)) ∧ putVC n o.dst v T (fun T => VCtree Γ n ops r K T L)) (fun T => putVC n o.dst undef T (fun T => VCtree Γ n ops r K T L))) False
  | .e k r s, K, T, L => oM (ops.toList[k]?) (fun o => guardVC ops o.guard T (fun T => VC Γ o T L (fun v L' => putVC n o.dst v T (fun T => Less L' L ∧ VCtree Γ n ops r K T L'))) (fun T => putVC n o.dst undef T (fun T => VCtree Γ n ops r K T L))) False ∧ VCtree Γ n ops s K T L
  | .t k r, K, T, L => oM (ops.toList[k]?) (fun o => guardVC ops o.guard T (fun T => VC Γ o T L (fun v L' => putVC n o.dst v T (fun T => VCtree Γ n ops r K T L'))) (fun T => putVC n o.dst undef T (fun T => VCtree Γ n ops r K T L))) False
section
variable {Γ : Ctx} {n : Nat} {T : Env} {L : Hp} {Q : Exit → Env → Hp → Prop}

theorem tree_sound {ops : Array Oper} {tl : List Nat} {K : Env → Hp → Prop} (hs : Region.noSelect ops = true) : ∀ (pl : Tr) (m : Nat) (td : Bool) (listed : Array Bool) (M : Hp) (T : Env) (L : Hp) (a : Act),
    pl.even m = true → Closed ops listed → VCtree Γ n ops pl K T L → Fits n T a → (td = false → M = L) →
    (okTr ops tl true td pl listed = true → AnyL Γ ops (onlyNormal fun a w => ∃ T L, Fits n T a ∧ Inv Γ L w ∧ K T L) tl m listed M L a) ∧
    (okTr ops tl false td pl listed = true → ∀ i ∈ pl.alts, i ∈ Region.ready .any ops listed → ∀ w, Inv Γ L w → 0 < m ∧ wpOp Γ.P ops (onlyNormal fun a w => ∃ T L, Fits n T a ∧ Inv Γ L w ∧ K T L) i (fun a' w' => ∃ M' L' : Hp, Inv Γ L' w' ∧ Less L' M' ∧ (i ∉ tl → Less M' M) ∧ AnyL Γ ops (onlyNormal fun a w => ∃ T L, Fits n T a ∧ Inv Γ L w ∧ K T L) tl (m - 1) (listed.setIfInBounds i true) M' L' a') a w) := by
  intro pl
  induction pl with
  | nil =>
    intro m td listed M T L a he hcl h hf hC
    have hm : m = 0 := by simpa [Tr.even] using he
    subst hm
    exact ⟨fun hB => ⟨by simpa [okTr] using hB, fun w hi => ⟨T, L, hf, hi, h⟩⟩, fun hB => by simp [okTr] at hB⟩
  | z => exact fun m td listed M T L a he hcl h hf hC => ⟨fun hB => by simp [okTr] at hB, fun hB i hi => by simp [Tr.alts] at hi⟩
  | q k r ih =>
    intro m td listed M T L a he hcl h hf hC
    refine ⟨fun hB => ?_, fun hB => by simp [okTr] at hB⟩
    simp only [Tr.even, Bool.and_eq_true, bne_iff_ne, ne_eq] at he
    obtain ⟨hm, he⟩ := he
    obtain ⟨m, rfl⟩ : ∃ m', m = m' + 1 := ⟨m - 1, by omega⟩
    simp only [VCtree] at h
    rw [Array.getElem?_toList] at h
    cases ho : ops[k]? with
    | none => rw [ho] at h; exact h.elim
    | some o =>
      rw [ho, oM_some] at h
      simp only [okTr, Bool.and_eq_true, Bool.not_eq_true', true_and] at hB
      obtain ⟨⟨⟨⟨⟨htd, hr⟩, hfr⟩, hnc⟩, htl⟩, hB⟩ := hB
      obtain rfl := hC htd
      have hr' : k ∈ Region.ready .any ops listed := by simpa using hr
      have hnc' : isCallV o = false := by simpa [notCall, ho] using hnc
      have key : ∃ v T', YV Γ.P ops (Inv Γ M) o v a ∧ Fits n T' (a.put o.dst v) ∧ VCtree Γ n ops r K T' M := by
        rcases guardVC_sound hf h with ⟨hwa, h⟩ | ⟨hwa, h⟩
        · obtain ⟨v, hk, hrun | ⟨hc, _⟩⟩ := VQ_sound h
          · obtain ⟨T', hf', hk'⟩ := putVC_sound hf hk
            exact ⟨v, T', .inl ⟨hwa, by rw [hf.eval]; exact hrun⟩, hf', hk'⟩
          · rw [hnc'] at hc; cases hc
        · obtain ⟨T', hf', hk'⟩ := putVC_sound hf h
          exact ⟨undef, T', .inr ⟨hwa, rfl⟩, hf', hk'⟩
      obtain ⟨v, T', hy, hf', hk'⟩ := key
      exact AnyL_first ho (Region.noSelect_spec hs) (fun _ _ _ h => h) ops.size (fun t ht => List.all_eq_true.1 htl t ht) m listed _ _ a hcl (Region.free_spec ho hfr) hr' (.of_quiet ho hy) (Less.refl _)
        ((ih m td _ _ T' M _ he (hcl.set hr') hk' hf' fun _ => rfl).1 hB)
  | c k r ih =>
    intro m td listed M T L a he hcl h hf hC
    refine ⟨fun hB => ?_, fun hB => by simp [okTr] at hB⟩
    simp only [Tr.even, Bool.and_eq_true, bne_iff_ne, ne_eq] at he
    obtain ⟨hm, he⟩ := he
    obtain ⟨m, rfl⟩ : ∃ m', m = m' + 1 := ⟨m - 1, by omega⟩
    simp only [VCtree] at h
    rw [Array.getElem?_toList] at h
    cases ho : ops[k]? with
    | none => rw [ho] at h; exact h.elim
    | some o =>
      rw [ho, oM_some] at h
      simp only [okTr, Bool.and_eq_true, Bool.not_eq_true', true_and] at hB
      obtain ⟨⟨⟨⟨htd, hr⟩, hfr⟩, htl⟩, hB⟩ := hB
      obtain rfl := hC htd
      have hr' : k ∈ Region.ready .any ops listed := by simpa using hr
      have key : ∃ v T', StepV Γ ops (onlyNormal fun a w => ∃ T L, Fits n T a ∧ Inv Γ L w ∧ K T L) k o v M a ∧ Fits n T' (a.put o.dst v) ∧ VCtree Γ n ops r K T' M := by
        rcases guardVC_sound hf h with ⟨hwa, v, h, hk⟩ | ⟨hwa, h⟩
        · obtain ⟨T', hf', hk'⟩ := putVC_sound hf hk
          refine ⟨v, T', fun a' hs L0 w hl0 hi K hK => ?_, hf', hk'⟩
          unfold wpOp
          simp only [ho]
          have hy := VC_sound (h L0 hl0) w hi
          rw [← hf.eval, ← hs.1] at hy
          rw [hs.2, hwa, if_pos rfl]
          refine .inl ?_
          unfold Oper.wp
          revert hy
          generalize (execOp a'.eval o).run Γ.P w = r
          intro hy
          cases r with
          | halt x w' => exact hy.elim
          | ok nx w' =>
            cases nx <;> first | exact hy.elim | skip
            case value u =>
              obtain ⟨L', hi', rfl, rfl⟩ := hy
              exact hK _ hi'
            case skip =>
              obtain ⟨L', hi', hv, rfl⟩ := hy
              have := hK _ hi'
              rw [← hv] at this
              exact this
            case enter f args =>
              simp only [Oper.upon]
              refine Calls.mono hy ?_
              rintro e w'' ⟨u, L', rfl, hi', rfl, rfl⟩
              exact hK _ hi'
        · obtain ⟨T', hf', hk'⟩ := putVC_sound hf h
          refine ⟨undef, T', fun a' hs L0 w hl0 hi K hK => ?_, hf', hk'⟩
          unfold wpOp
          simp only [ho, hs.2, hwa, Bool.false_eq_true, if_false]
          exact hK w hi
      obtain ⟨v, T', hy, hf', hk'⟩ := key
      exact AnyL_first ho (Region.noSelect_spec hs) (fun _ _ _ h => h) ops.size (fun t ht => List.all_eq_true.1 htl t ht) m listed _ _ a hcl (Region.free_spec ho hfr) hr' hy (Less.refl _)
        ((ih m td _ _ T' M _ he (hcl.set hr') hk' hf' fun _ => rfl).1 hB)
  | e k r s ihr ihs =>
    intro m td listed M T L a he hcl h hf hC
    simp only [Tr.even, Bool.and_eq_true, bne_iff_ne, ne_eq] at he
    obtain ⟨⟨hm, he⟩, hes⟩ := he
    obtain ⟨m, rfl⟩ : ∃ m', m = m' + 1 := ⟨m - 1, by omega⟩
    simp only [VCtree] at h
    obtain ⟨h, hsx⟩ := h
    rw [Array.getElem?_toList] at h
    have core : ∀ hd, okTr ops tl hd td (.e k r s) listed = true → ∀ i ∈ (Tr.e k r s).alts, i ∈ Region.ready .any ops listed → ∀ w, Inv Γ L w → wpOp Γ.P ops (onlyNormal fun a w => ∃ T L, Fits n T a ∧ Inv Γ L w ∧ K T L) i (fun a' w' => ∃ M' L' : Hp, Inv Γ L' w' ∧ Less L' M' ∧ (i ∉ tl → Less M' M) ∧ AnyL Γ ops (onlyNormal fun a w => ∃ T L, Fits n T a ∧ Inv Γ L w ∧ K T L) tl m (listed.setIfInBounds i true) M' L' a') a w := by
      intro hd hB i hi hir w hw
      simp only [okTr, Bool.and_eq_true, Bool.not_eq_true'] at hB
      obtain ⟨⟨⟨⟨⟨_, htd⟩, hnt⟩, hr⟩, hB⟩, hBs⟩ := hB
      obtain rfl := hC htd
      have hr' : k ∈ Region.ready .any ops listed := by simpa using hr
      rcases List.mem_cons.1 (show i ∈ k :: s.alts from hi) with rfl | hi
      · cases ho : ops[i]? with
        | none => rw [ho] at h; exact h.elim
        | some o =>
          rw [ho, oM_some] at h
          refine wpOp_mono ?_ (eff_wpOp ho hf hw (R := fun T L' => Less L' M ∧ VCtree Γ n ops r K T L') (N := fun T L => VCtree Γ n ops r K T L) h)
          rintro a' w' ⟨T', L', hf', hi'', ⟨h2, h3⟩ | ⟨rfl, h3⟩⟩
          · exact ⟨L', L', hi'', Less.refl _, fun _ => h2, (ihr m td _ _ T' L' a' he (hcl.set hr') h3 hf' fun _ => rfl).1 hB⟩
          · exact ⟨L', L', hi'', Less.refl _, fun _ => Less.refl _, (ihr m td _ _ T' L' a' he (hcl.set hr') h3 hf' fun _ => rfl).1 hB⟩
      · have := ((ihs (m + 1) td listed _ T M a hes hcl hsx hf fun _ => rfl).2 hBs i hi hir w hw).2
        rwa [Nat.add_sub_cancel] at this
    refine ⟨fun hB => ⟨fun h0 => ?_, fun i hi w hw => core true hB i ?_ hi w hw⟩, fun hB i hi hir w hw => ⟨by omega, core false hB i hi hir w hw⟩⟩
    · simp only [okTr, Bool.and_eq_true] at hB
      have hr := hB.1.1.2
      rw [h0] at hr
      simp at hr
    · simp only [okTr, Bool.and_eq_true, Bool.not_true, Bool.false_or] at hB
      have := List.all_eq_true.1 hB.1.1.1.1.1 i hi
      simpa using this
  | t k r ih =>
    intro m td listed M T L a he hcl h hf hC
    refine ⟨fun hB => ?_, fun hB => by simp [okTr] at hB⟩
    simp only [Tr.even, Bool.and_eq_true, bne_iff_ne, ne_eq] at he
    obtain ⟨hm, he⟩ := he
    obtain ⟨m, rfl⟩ : ∃ m', m = m' + 1 := ⟨m - 1, by omega⟩
    simp only [VCtree] at h
    rw [Array.getElem?_toList] at h
    cases ho : ops[k]? with
    | none => rw [ho] at h; exact h.elim
    | some o =>
      rw [ho, oM_some] at h
      simp only [okTr, Bool.and_eq_true, decide_eq_true_eq, true_and] at hB
      obtain ⟨⟨hr, hnt⟩, hB⟩ := hB
      have hr' : k ∈ Region.ready .any ops listed := by rw [hr]; simp
      refine ⟨fun h0 => (by rw [h0] at hr; cases hr), fun i hi' w hi => ?_⟩
      rw [hr] at hi'
      have hik : i = k := by simpa using hi'
      subst hik
      have hmem : i ∈ tl := by simpa using hnt
      refine wpOp_mono ?_ (eff_wpOp ho hf hi (R := fun T L' => VCtree Γ n ops r K T L') (N := fun T L => VCtree Γ n ops r K T L) h)
      rintro a' w' ⟨T', L', hf', hi'', h3 | ⟨rfl, h3⟩⟩
      · exact ⟨[], L', hi'', Less.nil _, fun hn => absurd hmem hn, (ih m true _ _ T' L' a' he (hcl.set hr') h3 hf' fun h => by cases h).1 hB⟩
      · exact ⟨[], L', hi'', Less.nil _, fun hn => absurd hmem hn, (ih m true _ _ T' L' a' he (hcl.set hr') h3 hf' fun h => by cases h).1 hB⟩

theorem SX.tree {id : Nat} {l : List Oper} (pl : Tr) (hm : Γ.P.follows .mixedOrders = true) (hB : treeB l.toArray pl = true)
    (h : VCtree Γ n l.toArray pl (Q .normal) T L) : SX Γ n (.region id l.toArray true) Q T L := fun a w hf hi => by
  simp only [treeB, Bool.and_eq_true] at hB
  obtain ⟨⟨hs, hev⟩, hB⟩ := hB
  have H := (tree_sound (K := Q .normal) (tl := pl.tails) hs pl _ false _ L T L a hev (Closed.zero _) h hf fun _ => rfl).1 hB
  have H2 := wp_region_any (id := id) hm (H.any _ _ _ _ _ _ hi.drewR)
  refine Code.wp_mono (fun e a w he => ?_) H2
  cases e <;> first | exact he | exact (he : False).elim
theorem SX.tree_d {id : Nat} {l : List Oper} (pl : Tr) (hm : Γ.P.follows .mixedOrders = true) (hB : treeB l.toArray pl = true) (ds : List (Option Tmp)) (hd : l.map (fun o : Oper => o.dst) = ds)
    (h : ∀ ops : Array Oper, Dsts ops ds → (∀ k : Nat, ops.toList[k]? = l[k]?) → VCtree Γ n ops pl (Q .normal) T L) : SX Γ n (.region id l.toArray true) Q T L := SX.tree pl hm hB (h _ (dsts_of hd) fun _ => rfl)
end
def VCtreeH (Γ : Ctx) (n : Nat) (ops : Array Oper) (pl : Tr) (K : (Env → Hp → Prop)) (T : Env) (L : Hp) (_ : Dk ops) (_ : Dk K) (_ : Dk T) (_ : Dk L) : Prop := VCtree Γ n ops pl K T L
section
variable {Γ : Ctx} {n : Nat} {ops : Array Oper} {T : Env} {L : Hp} {Q : Env → Hp → Prop} {k : Nat} {r s : Tr}
theorem tree_H {pl : Tr} : VCtree Γ n ops pl Q T L = VCtreeH Γ n ops pl Q T L () () () () := rfl
theorem tree_nilH : VCtreeH Γ n ops .nil Q T L () () () () = Q T L := rfl
theorem tree_zH : VCtreeH Γ n ops .z Q T L () () () () = True := rfl
theorem tree_qH : VCtreeH Γ n ops (.q k r) Q T L () () () () = oMH (ops.toList[k]?) (fun o => guardVCH ops o.guard T (fun T => VQH Γ o T L (fun v => putVCH n o.dst v T (fun T => VCtreeH Γ n ops r Q T L () () () ()) () ()) () () () ()) (fun T => putVCH n o.dst undef T (fun T => VCtreeH Γ n ops r Q T L () () () ()) () ()) () () () ()) False () () := rfl
theorem tree_cH : VCtreeH Γ n ops (.c k r) Q T L () () () () = oMH (ops.toList[k]?) (fun o => guardVCH ops o.guard T (fun T => ∃ v, (∀ L0, Less L0 L → VCH Γ o T L0 (fun u L1 => u = v ∧ L1 = L0) () () () ()) ∧ putVCH n o.dst v T (fun T => VCtreeH Γ n ops r Q T L () () () ()) () ()) (fun T => putVCH n o.dst undef T (fun T => VCtreeH Γ n ops r Q T L () () () ()) () ()) () () () ()) False () () := rfl
/-- The ways at a fork are seen to one by one. -/
theorem tree_eH : VCtreeH Γ n ops (.e k r s) Q T L () () () () = (stK (oMH (ops.toList[k]?) (fun o => guardVCH ops o.guard T (fun T => VCH Γ o T L (fun v L' => putVCH n o.dst v T (fun T => Less L' L ∧ VCtreeH Γ n ops r Q T L' () () () ()) () ()) () () () ()) (fun T => putVCH n o.dst undef T (fun T => VCtreeH Γ n ops r Q T L () () () ()) () ()) () () () ()) False () ()) () ∧ stK (VCtreeH Γ n ops s Q T L () () () ()) ()) := by
  rw [stK_e, stK_e]; rfl
theorem tree_e1H : VCtreeH Γ n ops (.e k r .z) Q T L () () () () = oMH (ops.toList[k]?) (fun o => guardVCH ops o.guard T (fun T => VCH Γ o T L (fun v L' => putVCH n o.dst v T (fun T => Less L' L ∧ VCtreeH Γ n ops r Q T L' () () () ()) () ()) () () () ()) (fun T => putVCH n o.dst undef T (fun T => VCtreeH Γ n ops r Q T L () () () ()) () ()) () () () ()) False () () := by
  show (_ ∧ True) = _
  rw [and_true]; rfl
theorem tree_tH : VCtreeH Γ n ops (.t k r) Q T L () () () () = oMH (ops.toList[k]?) (fun o => guardVCH ops o.guard T (fun T => VCH Γ o T L (fun v L' => putVCH n o.dst v T (fun T => VCtreeH Γ n ops r Q T L' () () () ()) () ()) () () () ()) (fun T => putVCH n o.dst undef T (fun T => VCtreeH Γ n ops r Q T L () () () ()) () ()) () () () ()) False () () := rfl
end
end Go.SX
namespace Go.SX
attribute [go_sem] tree_H tree_nilH tree_zH tree_qH tree_cH tree_tH tree_e1H
attribute [go_sem low] tree_eH
theorem Less.swap0 (a b : Slot) (L : Hp) : Less (a :: b :: L) (b :: a :: L) := Less.perm (List.Perm.swap _ _ _)
theorem Less.swap1 (x a b : Slot) (L : Hp) : Less (x :: a :: b :: L) (x :: b :: a :: L) := Less.perm (.cons _ (List.Perm.swap _ _ _))
end Go.SX
set_option linter.unusedVariables false
set_option linter.unusedSimpArgs false
namespace Go.Proofs.Ytgioegdjeodpiaa
open Go.RowKit Go.SX
open Go.SX renaming ia_someH → Φa

def newG (p : List Int) : GM × Int := if 3232 < p.length then (zeroG, 2) else (⟨List.replicate 16 0, 0, 512, [], 0, 0, List.replicate 256 0, p ++ List.replicate (3232 - p.length) 0⟩, 0)
def newR (r : GM × Int) (L : Hp) (v : Value) (L' : Hp) : Prop := ∃ sv pv mv s1 s2 s3, v = .tuple #[.agg (r.1.cells sv pv mv).toArray, .int .i64 r.2] ∧ L' = s1 :: s2 :: s3 :: L ∧ Rows r.1 sv pv mv s1 s2 s3
theorem zerosI (k : IntKind) (n : Nat) : zerosV [.int k 0] n = ints k (List.replicate n 0) := by simp [zerosV, ints]
theorem copied {k : IntKind} {p : List Int} {n : Nat} (h : p.length ≤ n) : ints k (p.take n) ++ (zerosV [.int k 0] n).drop (min p.length n) = ints k (p ++ List.replicate (n - p.length) 0) := by
  rw [zerosI, List.take_of_length_le h, Nat.min_eq_left h, ints_app]
  congr 1
  simp [ints]
theorem rowFull {k : IntKind} {e b n : Nat} {l : List Int} (h : l.length = n) (hb : n ≤ 9223372036854775807 := by omega) : RowI k e (.slice (some ⟨b, 0, none⟩) n n) l (some (b, .cells (ints k l).toArray e (0, 0))) := by
  subst h
  exact ⟨by rw [ints_length, Nat.mul_one], .inr ⟨b, l.length, [], rfl, by rw [List.append_nil], ⟨Nat.le_refl _, hb⟩, by simp [ints_length]⟩⟩
set_option maxHeartbeats 1000000 in
set_option maxRecDepth 100000 in
theorem New_spec {Γ : Ctx} (hP : Γ.P = Try.prog) {L : Hp} {v : Value} {p : List Int} (hp : SlI .u8 (Cell Γ L) v p) (hpl : p.length ≤ 9223372036854775807) :
    SCall Γ 13 #[v] L (newR (newG p) L) := by
  obtain ⟨A, c, rfl, hc, hA⟩ := id hp
  refine SCall.enter (n := 17) (resX Γ [.cell 2 29, .tmp 3]) (hP ▸ Try.func13) rfl rfl (by simp) (resX_ok rfl) ?_
  refine SX.seq_k fun K1 hK1 => ?_
  refine SX.region_d [some 2, some 3] rfl (fun ops hops => ?_)
  unfold Dsts at hops
  simp (maxSteps:=1000000)(dsimp:=false)(disch:=omega) only [go_sem, Φa, hP, hops]
  intro g0
  try with_reducible refine stI ?_
  try simp (maxSteps:=1000000)(dsimp:=false)(disch:=omega) only [go_sem, Φa, hP, hops]
  refine hK1 _ _ ?_
  try clear hK1 K1
  refine SX.seq_k fun K2 hK2 => ?_
  refine SX.seq_k fun K3 hK3 => ?_
  refine SX.region_d [some 5, some 6, some 7] rfl (fun ops hops => ?_)
  unfold Dsts at hops
  simp (maxSteps:=1000000)(dsimp:=false)(disch:=omega) only [go_sem, Φa, hP, hops]
  repeat' ((first | refine And.intro (by omega) ?_ | fail); try (with_reducible refine stI ?_); try simp (maxSteps:=1000000)(dsimp:=false)(disch:=omega) only [go_sem, Φa, hP, hops])
  refine hK3 _ _ ?_
  try clear hK3 K3
  refine SX.cond_k fun X4 Y4 hX4 hY4 => ?_
  simp (maxSteps:=1000000)(dsimp:=false)(disch:=omega) only [go_sem, Φa, hP, condVC]
  refine ⟨fun hc7 => hX4 ?_, fun hc7 => hY4 ?_⟩
  · clear hX4 hY4 X4 Y4
    refine SX.seq_k fun K5 hK5 => ?_
    refine SX.region_d [some 8, none, some 3] rfl (fun ops hops => ?_)
    unfold Dsts at hops
    simp (maxSteps:=1000000)(dsimp:=false)(disch:=omega) only [go_sem, Φa, hP, hops]
    refine ⟨0, _, _, _, rfl, by decide, .inr (by decide), ?_⟩
    try with_reducible refine stI ?_
    try simp (maxSteps:=1000000)(dsimp:=false)(disch:=omega) only [go_sem, Φa, hP, hops]
    refine hK5 _ _ ?_
    try clear hK5 K5
    refine SX.ret ?_
    simp only [andThen_normal, andThen_ret, andThen_exit, inBlk_normal, inBlk_ret, inBlk_exit, Nat.reduceEqDiff, if_true, if_false, ↓reduceIte, retQ_ret]
    try simp only [res0,res1,res2,res3,stK_e,resX,resK,oneOr,ld_ptr,loadVC,loadN,List.nil_append,List.cons_append,Nat.reduceAdd,Nat.add_zero,Nat.zero_add,Addr.add_lit,Addr.add_zero',add_addS,T.elA_29,T.lay_29,T.szA_29,T.zr_29,Try.underlying29,go_sem,Φa,hP]
    refine ⟨_, _, (Less.drop _ _).trans ((Less.none _).trans ((Less.none _).trans (Less.none _))), ⟨_, Cell.at 0 rfl rfl, _, Cell.at 0 rfl rfl, _, Cell.at 0 rfl rfl, _, Cell.at 0 rfl rfl, _, Cell.at 0 rfl rfl, _, Cell.at 0 rfl rfl, _, Cell.at 0 rfl rfl, _, Cell.at 0 rfl rfl, _, Cell.at 0 rfl rfl, _, Cell.at 0 rfl rfl, _, Cell.at 0 rfl rfl, _, Cell.at 0 rfl rfl, _, Cell.at 0 rfl rfl, _, Cell.at 0 rfl rfl, _, Cell.at 0 rfl rfl, _, Cell.at 0 rfl rfl, _, Cell.at 0 rfl rfl, _, Cell.at 0 rfl rfl, _, Cell.at 0 rfl rfl, _, Cell.at 0 rfl rfl, _, Cell.at 0 rfl rfl, _, Cell.at 0 rfl rfl, _, Cell.at 0 rfl rfl, rfl⟩, ?_⟩
    unfold newG
    rw [if_pos (by omega)]
    exact ⟨_, _, _, _, _, _, rfl, rfl, ⟨RowI.nil _ _, RowI.nil _ _, RowI.nil _ _⟩⟩
  · clear hX4 hY4 X4 Y4
    refine SX.skip ?_
    try simp only [andThen_normal, andThen_ret, andThen_exit, inBlk_normal, inBlk_ret, inBlk_exit, Nat.reduceEqDiff, if_true, if_false, ↓reduceIte]
    refine hK2 _ _ ?_
    try clear hK2 K2
    refine SX.live [0, 2] (fun T1 hT1 => ?_)
    simp only [forall_mem_cons', forall_mem_nil', go_sem, Φa, hP] at hT1
    obtain ⟨h1_0, h1_2⟩ := hT1
    refine SX.join (fun (ss : (Nat) × (Nat) × (Nat)) T L' => (fun (b0 : Nat) (b1 : Nat) (b3 : Nat) => T 4 = .pointer (some ⟨b3, 0, none⟩) ∧ T 0 = T1 0 ∧ T 2 = T1 2 ∧ L' = some (b3, .cells #[.int .u8 0, .int .u8 0, .int .u8 0, .int .u8 0, .int .u8 0, .int .u8 0, .int .u8 0, .int .u8 0, .int .u8 0, .int .u8 0, .int .u8 0, .int .u8 0, .int .u8 0, .int .u8 0, .int .u8 0, .int .u8 0, .int .u16 0, .int .u16 512, .slice none 0 0, .int .u8 0, .int .u8 0, .slice (some ⟨b0, 0, none⟩) 256 256, .slice (some ⟨b1, 0, none⟩) 3232 3232] 29 (0, 0)) :: some (b1, .cells (zerosV [.int .u8 0] 3232).toArray 5 (0, 0)) :: some (b0, .cells (zerosV [.int .u8 0] 256).toArray 5 (0, 0)) :: some (g0, .cells #[.int .u8 0, .int .u8 0, .int .u8 0, .int .u8 0, .int .u8 0, .int .u8 0, .int .u8 0, .int .u8 0, .int .u8 0, .int .u8 0, .int .u8 0, .int .u8 0, .int .u8 0, .int .u8 0, .int .u8 0, .int .u8 0, .int .u16 0, .int .u16 0, .slice none 0 0, .int .u8 0, .int .u8 0, .slice none 0 0, .slice none 0 0] 29 (0, 0)) :: L ∧ (True)) (ss.1) (ss.2.1) (ss.2.2)) (fun K6 hK6 => ?_) ?_
    · simp only [h1_0, h1_2] at hK6
      refine SX.tree_d (.e 0 (.e 1 (.q 2 (.e 3 (.t 4 (.nil)) (.z))) (.e 3 (.e 1 (.q 2 (.t 4 (.nil))) (.z)) (.z))) (.e 1 (.e 0 (.q 2 (.e 3 (.t 4 (.nil)) (.z))) (.e 3 (.e 0 (.q 2 (.t 4 (.nil))) (.z)) (.z))) (.e 3 (.e 0 (.e 1 (.q 2 (.t 4 (.nil))) (.z)) (.e 1 (.e 0 (.q 2 (.t 4 (.nil))) (.z)) (.z))) (.z)))) (hP ▸ T.mixed) (by kernel_rfl) [some 9, some 10, some 11, some 4, none] rfl (fun ops hops hopl => ?_)
      unfold Dsts at hops
      simp (maxSteps:=1000000)(dsimp:=false)(disch:=omega) only [go_sem, Φa, hP, h1_0, h1_2, hops, hopl]
      refine And.intro ?_ ?_
      · try with_reducible refine stI ?_
        try simp (maxSteps:=1000000)(dsimp:=false)(disch:=omega) only [go_sem, Φa, hP, h1_0, h1_2, hops, hopl]
        intro b0
        try with_reducible refine stI ?_
        try simp (maxSteps:=1000000)(dsimp:=false)(disch:=omega) only [go_sem, Φa, hP, h1_0, h1_2, hops, hopl]
        try with_reducible refine And.intro (Less.drop _ _) ?_
        try with_reducible refine stI ?_
        try simp (maxSteps:=1000000)(dsimp:=false)(disch:=omega) only [go_sem, Φa, hP, h1_0, h1_2, hops, hopl]
        refine And.intro ?_ ?_
        · try with_reducible refine stI ?_
          try simp (maxSteps:=1000000)(dsimp:=false)(disch:=omega) only [go_sem, Φa, hP, h1_0, h1_2, hops, hopl]
          intro b1
          try with_reducible refine stI ?_
          try simp (maxSteps:=1000000)(dsimp:=false)(disch:=omega) only [go_sem, Φa, hP, h1_0, h1_2, hops, hopl]
          try with_reducible refine And.intro (Less.drop _ _) ?_
          try with_reducible refine stI ?_
          try simp (maxSteps:=1000000)(dsimp:=false)(disch:=omega) only [go_sem, Φa, hP, h1_0, h1_2, hops, hopl]
          intro b3
          try with_reducible refine stI ?_
          try simp (maxSteps:=1000000)(dsimp:=false)(disch:=omega) only [go_sem, Φa, hP, h1_0, h1_2, hops, hopl]
          try with_reducible refine And.intro (Less.drop _ _) ?_
          try with_reducible refine stI ?_
          try simp (maxSteps:=1000000)(dsimp:=false)(disch:=omega) only [go_sem, Φa, hP, h1_0, h1_2, hops, hopl]
          refine ⟨0, _, _, _, rfl, by decide, .inr (by decide), ?_⟩
          try with_reducible refine stI ?_
          try simp (maxSteps:=1000000)(dsimp:=false)(disch:=omega) only [go_sem, Φa, hP, h1_0, h1_2, hops, hopl]
          refine hK6 (b0, b1, b3) _ (some (b3, .cells #[.int .u8 0, .int .u8 0, .int .u8 0, .int .u8 0, .int .u8 0, .int .u8 0, .int .u8 0, .int .u8 0, .int .u8 0, .int .u8 0, .int .u8 0, .int .u8 0, .int .u8 0, .int .u8 0, .int .u8 0, .int .u8 0, .int .u16 0, .int .u16 512, .slice none 0 0, .int .u8 0, .int .u8 0, .slice (some ⟨b0, 0, none⟩) 256 256, .slice (some ⟨b1, 0, none⟩) 3232 3232] 29 (0, 0)) :: some (b1, .cells (zerosV [.int .u8 0] 3232).toArray 5 (0, 0)) :: some (b0, .cells (zerosV [.int .u8 0] 256).toArray 5 (0, 0)) :: some (g0, .cells #[.int .u8 0, .int .u8 0, .int .u8 0, .int .u8 0, .int .u8 0, .int .u8 0, .int .u8 0, .int .u8 0, .int .u8 0, .int .u8 0, .int .u8 0, .int .u8 0, .int .u8 0, .int .u8 0, .int .u8 0, .int .u8 0, .int .u16 0, .int .u16 0, .slice none 0 0, .int .u8 0, .int .u8 0, .slice none 0 0, .slice none 0 0] 29 (0, 0)) :: L) _ (by exact Less.refl _) ?_
          try dsimp only
          refine ⟨?_, ?_, ?_, ?_, ?_⟩
          · simp (maxSteps:=1000000)(dsimp:=false)(disch:=omega) only [go_sem, Φa, hP, h1_0, h1_2]
            first | done | rfl | skip
          · simp (maxSteps:=1000000)(dsimp:=false)(disch:=omega) only [go_sem, Φa, hP, h1_0, h1_2]
          · simp (maxSteps:=1000000)(dsimp:=false)(disch:=omega) only [go_sem, Φa, hP, h1_0, h1_2]
          · rfl
          · trivial
        · try with_reducible refine stI ?_
          try simp (maxSteps:=1000000)(dsimp:=false)(disch:=omega) only [go_sem, Φa, hP, h1_0, h1_2, hops, hopl]
          intro b3
          try with_reducible refine stI ?_
          try simp (maxSteps:=1000000)(dsimp:=false)(disch:=omega) only [go_sem, Φa, hP, h1_0, h1_2, hops, hopl]
          try with_reducible refine And.intro (Less.drop _ _) ?_
          try with_reducible refine stI ?_
          try simp (maxSteps:=1000000)(dsimp:=false)(disch:=omega) only [go_sem, Φa, hP, h1_0, h1_2, hops, hopl]
          intro b1
          try with_reducible refine stI ?_
          try simp (maxSteps:=1000000)(dsimp:=false)(disch:=omega) only [go_sem, Φa, hP, h1_0, h1_2, hops, hopl]
          try with_reducible refine And.intro (Less.drop _ _) ?_
          try with_reducible refine stI ?_
          try simp (maxSteps:=1000000)(dsimp:=false)(disch:=omega) only [go_sem, Φa, hP, h1_0, h1_2, hops, hopl]
          refine ⟨1, _, _, _, rfl, by decide, .inr (by decide), ?_⟩
          try with_reducible refine stI ?_
          try simp (maxSteps:=1000000)(dsimp:=false)(disch:=omega) only [go_sem, Φa, hP, h1_0, h1_2, hops, hopl]
          refine hK6 (b0, b1, b3) _ (some (b3, .cells #[.int .u8 0, .int .u8 0, .int .u8 0, .int .u8 0, .int .u8 0, .int .u8 0, .int .u8 0, .int .u8 0, .int .u8 0, .int .u8 0, .int .u8 0, .int .u8 0, .int .u8 0, .int .u8 0, .int .u8 0, .int .u8 0, .int .u16 0, .int .u16 512, .slice none 0 0, .int .u8 0, .int .u8 0, .slice (some ⟨b0, 0, none⟩) 256 256, .slice (some ⟨b1, 0, none⟩) 3232 3232] 29 (0, 0)) :: some (b1, .cells (zerosV [.int .u8 0] 3232).toArray 5 (0, 0)) :: some (b0, .cells (zerosV [.int .u8 0] 256).toArray 5 (0, 0)) :: some (g0, .cells #[.int .u8 0, .int .u8 0, .int .u8 0, .int .u8 0, .int .u8 0, .int .u8 0, .int .u8 0, .int .u8 0, .int .u8 0, .int .u8 0, .int .u8 0, .int .u8 0, .int .u8 0, .int .u8 0, .int .u8 0, .int .u8 0, .int .u16 0, .int .u16 0, .slice none 0 0, .int .u8 0, .int .u8 0, .slice none 0 0, .slice none 0 0] 29 (0, 0)) :: L) _ (by exact (Less.swap0 _ _ _)) ?_
          try dsimp only
          refine ⟨?_, ?_, ?_, ?_, ?_⟩
          · simp (maxSteps:=1000000)(dsimp:=false)(disch:=omega) only [go_sem, Φa, hP, h1_0, h1_2]
            first | done | rfl | skip
          · simp (maxSteps:=1000000)(dsimp:=false)(disch:=omega) only [go_sem, Φa, hP, h1_0, h1_2]
          · simp (maxSteps:=1000000)(dsimp:=false)(disch:=omega) only [go_sem, Φa, hP, h1_0, h1_2]
          · rfl
          · trivial
      · try with_reducible refine stI ?_
        try simp (maxSteps:=1000000)(dsimp:=false)(disch:=omega) only [go_sem, Φa, hP, h1_0, h1_2, hops, hopl]
        refine And.intro ?_ ?_
        · try with_reducible refine stI ?_
          try simp (maxSteps:=1000000)(dsimp:=false)(disch:=omega) only [go_sem, Φa, hP, h1_0, h1_2, hops, hopl]
          intro b1
          try with_reducible refine stI ?_
          try simp (maxSteps:=1000000)(dsimp:=false)(disch:=omega) only [go_sem, Φa, hP, h1_0, h1_2, hops, hopl]
          try with_reducible refine And.intro (Less.drop _ _) ?_
          try with_reducible refine stI ?_
          try simp (maxSteps:=1000000)(dsimp:=false)(disch:=omega) only [go_sem, Φa, hP, h1_0, h1_2, hops, hopl]
          refine And.intro ?_ ?_
          · try with_reducible refine stI ?_
            try simp (maxSteps:=1000000)(dsimp:=false)(disch:=omega) only [go_sem, Φa, hP, h1_0, h1_2, hops, hopl]
            intro b0
            try with_reducible refine stI ?_
            try simp (maxSteps:=1000000)(dsimp:=false)(disch:=omega) only [go_sem, Φa, hP, h1_0, h1_2, hops, hopl]
            try with_reducible refine And.intro (Less.drop _ _) ?_
            try with_reducible refine stI ?_
            try simp (maxSteps:=1000000)(dsimp:=false)(disch:=omega) only [go_sem, Φa, hP, h1_0, h1_2, hops, hopl]
            intro b3
            try with_reducible refine stI ?_
            try simp (maxSteps:=1000000)(dsimp:=false)(disch:=omega) only [go_sem, Φa, hP, h1_0, h1_2, hops, hopl]
            try with_reducible refine And.intro (Less.drop _ _) ?_
            try with_reducible refine stI ?_
            try simp (maxSteps:=1000000)(dsimp:=false)(disch:=omega) only [go_sem, Φa, hP, h1_0, h1_2, hops, hopl]
            refine ⟨0, _, _, _, rfl, by decide, .inr (by decide), ?_⟩
            try with_reducible refine stI ?_
            try simp (maxSteps:=1000000)(dsimp:=false)(disch:=omega) only [go_sem, Φa, hP, h1_0, h1_2, hops, hopl]
            refine hK6 (b0, b1, b3) _ (some (b3, .cells #[.int .u8 0, .int .u8 0, .int .u8 0, .int .u8 0, .int .u8 0, .int .u8 0, .int .u8 0, .int .u8 0, .int .u8 0, .int .u8 0, .int .u8 0, .int .u8 0, .int .u8 0, .int .u8 0, .int .u8 0, .int .u8 0, .int .u16 0, .int .u16 512, .slice none 0 0, .int .u8 0, .int .u8 0, .slice (some ⟨b0, 0, none⟩) 256 256, .slice (some ⟨b1, 0, none⟩) 3232 3232] 29 (0, 0)) :: some (b1, .cells (zerosV [.int .u8 0] 3232).toArray 5 (0, 0)) :: some (b0, .cells (zerosV [.int .u8 0] 256).toArray 5 (0, 0)) :: some (g0, .cells #[.int .u8 0, .int .u8 0, .int .u8 0, .int .u8 0, .int .u8 0, .int .u8 0, .int .u8 0, .int .u8 0, .int .u8 0, .int .u8 0, .int .u8 0, .int .u8 0, .int .u8 0, .int .u8 0, .int .u8 0, .int .u8 0, .int .u16 0, .int .u16 0, .slice none 0 0, .int .u8 0, .int .u8 0, .slice none 0 0, .slice none 0 0] 29 (0, 0)) :: L) _ (by exact (Less.swap1 _ _ _ _)) ?_
            try dsimp only
            refine ⟨?_, ?_, ?_, ?_, ?_⟩
            · simp (maxSteps:=1000000)(dsimp:=false)(disch:=omega) only [go_sem, Φa, hP, h1_0, h1_2]
              first | done | rfl | skip
            · simp (maxSteps:=1000000)(dsimp:=false)(disch:=omega) only [go_sem, Φa, hP, h1_0, h1_2]
            · simp (maxSteps:=1000000)(dsimp:=false)(disch:=omega) only [go_sem, Φa, hP, h1_0, h1_2]
            · rfl
            · trivial
          · try with_reducible refine stI ?_
            try simp (maxSteps:=1000000)(dsimp:=false)(disch:=omega) only [go_sem, Φa, hP, h1_0, h1_2, hops, hopl]
            intro b3
            try with_reducible refine stI ?_
            try simp (maxSteps:=1000000)(dsimp:=false)(disch:=omega) only [go_sem, Φa, hP, h1_0, h1_2, hops, hopl]
            try with_reducible refine And.intro (Less.drop _ _) ?_
            try with_reducible refine stI ?_
            try simp (maxSteps:=1000000)(dsimp:=false)(disch:=omega) only [go_sem, Φa, hP, h1_0, h1_2, hops, hopl]
            intro b0
            try with_reducible refine stI ?_
            try simp (maxSteps:=1000000)(dsimp:=false)(disch:=omega) only [go_sem, Φa, hP, h1_0, h1_2, hops, hopl]
            try with_reducible refine And.intro (Less.drop _ _) ?_
            try with_reducible refine stI ?_
            try simp (maxSteps:=1000000)(dsimp:=false)(disch:=omega) only [go_sem, Φa, hP, h1_0, h1_2, hops, hopl]
            refine ⟨1, _, _, _, rfl, by decide, .inr (by decide), ?_⟩
            try with_reducible refine stI ?_
            try simp (maxSteps:=1000000)(dsimp:=false)(disch:=omega) only [go_sem, Φa, hP, h1_0, h1_2, hops, hopl]
            refine hK6 (b0, b1, b3) _ (some (b3, .cells #[.int .u8 0, .int .u8 0, .int .u8 0, .int .u8 0, .int .u8 0, .int .u8 0, .int .u8 0, .int .u8 0, .int .u8 0, .int .u8 0, .int .u8 0, .int .u8 0, .int .u8 0, .int .u8 0, .int .u8 0, .int .u8 0, .int .u16 0, .int .u16 512, .slice none 0 0, .int .u8 0, .int .u8 0, .slice (some ⟨b0, 0, none⟩) 256 256, .slice (some ⟨b1, 0, none⟩) 3232 3232] 29 (0, 0)) :: some (b1, .cells (zerosV [.int .u8 0] 3232).toArray 5 (0, 0)) :: some (b0, .cells (zerosV [.int .u8 0] 256).toArray 5 (0, 0)) :: some (g0, .cells #[.int .u8 0, .int .u8 0, .int .u8 0, .int .u8 0, .int .u8 0, .int .u8 0, .int .u8 0, .int .u8 0, .int .u8 0, .int .u8 0, .int .u8 0, .int .u8 0, .int .u8 0, .int .u8 0, .int .u8 0, .int .u8 0, .int .u16 0, .int .u16 0, .slice none 0 0, .int .u8 0, .int .u8 0, .slice none 0 0, .slice none 0 0] 29 (0, 0)) :: L) _ (by exact Less.trans (Less.swap0 _ _ _) (Less.swap1 _ _ _ _)) ?_
            try dsimp only
            refine ⟨?_, ?_, ?_, ?_, ?_⟩
            · simp (maxSteps:=1000000)(dsimp:=false)(disch:=omega) only [go_sem, Φa, hP, h1_0, h1_2]
              first | done | rfl | skip
            · simp (maxSteps:=1000000)(dsimp:=false)(disch:=omega) only [go_sem, Φa, hP, h1_0, h1_2]
            · simp (maxSteps:=1000000)(dsimp:=false)(disch:=omega) only [go_sem, Φa, hP, h1_0, h1_2]
            · rfl
            · trivial
        · try with_reducible refine stI ?_
          try simp (maxSteps:=1000000)(dsimp:=false)(disch:=omega) only [go_sem, Φa, hP, h1_0, h1_2, hops, hopl]
          intro b3
          try with_reducible refine stI ?_
          try simp (maxSteps:=1000000)(dsimp:=false)(disch:=omega) only [go_sem, Φa, hP, h1_0, h1_2, hops, hopl]
          try with_reducible refine And.intro (Less.drop _ _) ?_
          try with_reducible refine stI ?_
          try simp (maxSteps:=1000000)(dsimp:=false)(disch:=omega) only [go_sem, Φa, hP, h1_0, h1_2, hops, hopl]
          refine And.intro ?_ ?_
          · try with_reducible refine stI ?_
            try simp (maxSteps:=1000000)(dsimp:=false)(disch:=omega) only [go_sem, Φa, hP, h1_0, h1_2, hops, hopl]
            intro b0
            try with_reducible refine stI ?_
            try simp (maxSteps:=1000000)(dsimp:=false)(disch:=omega) only [go_sem, Φa, hP, h1_0, h1_2, hops, hopl]
            try with_reducible refine And.intro (Less.drop _ _) ?_
            try with_reducible refine stI ?_
            try simp (maxSteps:=1000000)(dsimp:=false)(disch:=omega) only [go_sem, Φa, hP, h1_0, h1_2, hops, hopl]
            intro b1
            try with_reducible refine stI ?_
            try simp (maxSteps:=1000000)(dsimp:=false)(disch:=omega) only [go_sem, Φa, hP, h1_0, h1_2, hops, hopl]
            try with_reducible refine And.intro (Less.drop _ _) ?_
            try with_reducible refine stI ?_
            try simp (maxSteps:=1000000)(dsimp:=false)(disch:=omega) only [go_sem, Φa, hP, h1_0, h1_2, hops, hopl]
            refine ⟨2, _, _, _, rfl, by decide, .inr (by decide), ?_⟩
            try with_reducible refine stI ?_
            try simp (maxSteps:=1000000)(dsimp:=false)(disch:=omega) only [go_sem, Φa, hP, h1_0, h1_2, hops, hopl]
            refine hK6 (b0, b1, b3) _ (some (b3, .cells #[.int .u8 0, .int .u8 0, .int .u8 0, .int .u8 0, .int .u8 0, .int .u8 0, .int .u8 0, .int .u8 0, .int .u8 0, .int .u8 0, .int .u8 0, .int .u8 0, .int .u8 0, .int .u8 0, .int .u8 0, .int .u8 0, .int .u16 0, .int .u16 512, .slice none 0 0, .int .u8 0, .int .u8 0, .slice (some ⟨b0, 0, none⟩) 256 256, .slice (some ⟨b1, 0, none⟩) 3232 3232] 29 (0, 0)) :: some (b1, .cells (zerosV [.int .u8 0] 3232).toArray 5 (0, 0)) :: some (b0, .cells (zerosV [.int .u8 0] 256).toArray 5 (0, 0)) :: some (g0, .cells #[.int .u8 0, .int .u8 0, .int .u8 0, .int .u8 0, .int .u8 0, .int .u8 0, .int .u8 0, .int .u8 0, .int .u8 0, .int .u8 0, .int .u8 0, .int .u8 0, .int .u8 0, .int .u8 0, .int .u8 0, .int .u8 0, .int .u16 0, .int .u16 0, .slice none 0 0, .int .u8 0, .int .u8 0, .slice none 0 0, .slice none 0 0] 29 (0, 0)) :: L) _ (by exact Less.trans (Less.swap1 _ _ _ _) (Less.swap0 _ _ _)) ?_
            try dsimp only
            refine ⟨?_, ?_, ?_, ?_, ?_⟩
            · simp (maxSteps:=1000000)(dsimp:=false)(disch:=omega) only [go_sem, Φa, hP, h1_0, h1_2]
              first | done | rfl | skip
            · simp (maxSteps:=1000000)(dsimp:=false)(disch:=omega) only [go_sem, Φa, hP, h1_0, h1_2]
            · simp (maxSteps:=1000000)(dsimp:=false)(disch:=omega) only [go_sem, Φa, hP, h1_0, h1_2]
            · rfl
            · trivial
          · try with_reducible refine stI ?_
            try simp (maxSteps:=1000000)(dsimp:=false)(disch:=omega) only [go_sem, Φa, hP, h1_0, h1_2, hops, hopl]
            intro b1
            try with_reducible refine stI ?_
            try simp (maxSteps:=1000000)(dsimp:=false)(disch:=omega) only [go_sem, Φa, hP, h1_0, h1_2, hops, hopl]
            try with_reducible refine And.intro (Less.drop _ _) ?_
            try with_reducible refine stI ?_
            try simp (maxSteps:=1000000)(dsimp:=false)(disch:=omega) only [go_sem, Φa, hP, h1_0, h1_2, hops, hopl]
            intro b0
            try with_reducible refine stI ?_
            try simp (maxSteps:=1000000)(dsimp:=false)(disch:=omega) only [go_sem, Φa, hP, h1_0, h1_2, hops, hopl]
            try with_reducible refine And.intro (Less.drop _ _) ?_
            try with_reducible refine stI ?_
            try simp (maxSteps:=1000000)(dsimp:=false)(disch:=omega) only [go_sem, Φa, hP, h1_0, h1_2, hops, hopl]
            refine ⟨2, _, _, _, rfl, by decide, .inr (by decide), ?_⟩
            try with_reducible refine stI ?_
            try simp (maxSteps:=1000000)(dsimp:=false)(disch:=omega) only [go_sem, Φa, hP, h1_0, h1_2, hops, hopl]
            refine hK6 (b0, b1, b3) _ (some (b3, .cells #[.int .u8 0, .int .u8 0, .int .u8 0, .int .u8 0, .int .u8 0, .int .u8 0, .int .u8 0, .int .u8 0, .int .u8 0, .int .u8 0, .int .u8 0, .int .u8 0, .int .u8 0, .int .u8 0, .int .u8 0, .int .u8 0, .int .u16 0, .int .u16 512, .slice none 0 0, .int .u8 0, .int .u8 0, .slice (some ⟨b0, 0, none⟩) 256 256, .slice (some ⟨b1, 0, none⟩) 3232 3232] 29 (0, 0)) :: some (b1, .cells (zerosV [.int .u8 0] 3232).toArray 5 (0, 0)) :: some (b0, .cells (zerosV [.int .u8 0] 256).toArray 5 (0, 0)) :: some (g0, .cells #[.int .u8 0, .int .u8 0, .int .u8 0, .int .u8 0, .int .u8 0, .int .u8 0, .int .u8 0, .int .u8 0, .int .u8 0, .int .u8 0, .int .u8 0, .int .u8 0, .int .u8 0, .int .u8 0, .int .u8 0, .int .u8 0, .int .u16 0, .int .u16 0, .slice none 0 0, .int .u8 0, .int .u8 0, .slice none 0 0, .slice none 0 0] 29 (0, 0)) :: L) _ (by exact Less.trans (Less.swap0 _ _ _) (Less.trans (Less.swap1 _ _ _ _) (Less.swap0 _ _ _))) ?_
            try dsimp only
            refine ⟨?_, ?_, ?_, ?_, ?_⟩
            · simp (maxSteps:=1000000)(dsimp:=false)(disch:=omega) only [go_sem, Φa, hP, h1_0, h1_2]
              first | done | rfl | skip
            · simp (maxSteps:=1000000)(dsimp:=false)(disch:=omega) only [go_sem, Φa, hP, h1_0, h1_2]
            · simp (maxSteps:=1000000)(dsimp:=false)(disch:=omega) only [go_sem, Φa, hP, h1_0, h1_2]
            · rfl
            · trivial
    · intro ss T2 L2 hI
      obtain ⟨b0, b1, b3⟩ := ss
      try dsimp only at hI 
      simp only [h1_0, h1_2] at hI 
      obtain ⟨h2_4, h2_0, h2_2, hL2, hinv⟩ := hI
      replace hL2 := hL2.symm
      subst hL2
      clear h1_0 h1_2 T1
      refine SX.seq_k fun K7 hK7 => ?_
      have hpl2 : p.length ≤ 3232 := by omega
      refine SX.region_d [some 12, some 13, some 14, some 15] rfl (fun ops hops => ?_)
      unfold Dsts at hops
      simp (maxSteps:=1000000)(dsimp:=false)(disch:=omega) only [go_sem, Φa, hP, h2_4, h2_0, h2_2, hops]
      refine ⟨_, Cell.at 0 rfl rfl, ?_⟩
      try with_reducible refine stI ?_
      try simp (maxSteps:=1000000)(dsimp:=false)(disch:=omega) only [go_sem, Φa, hP, h2_4, h2_0, h2_2, hops]
      refine YCopy.ints (i := 1) (hP ▸ T.elS_23) (SlI.cons _ (SlI.cons _ (SlI.cons _ (SlI.cons _ hp)))) rfl (by simp [zerosV]; omega) (.inr (Nat.zero_le _)) ?_
      rw [copied hpl2]
      try with_reducible refine stI ?_
      try simp (maxSteps:=1000000)(dsimp:=false)(disch:=omega) only [go_sem, Φa, hP, h2_4, h2_0, h2_2, hops]
      refine hK7 _ _ ?_
      try clear hK7 K7
      refine SX.seq_k fun K8 hK8 => ?_
      refine SX.region_d [some 16, none, some 3] rfl (fun ops hops => ?_)
      unfold Dsts at hops
      simp (maxSteps:=1000000)(dsimp:=false)(disch:=omega) only [go_sem, Φa, hP, h2_4, h2_0, h2_2, hops]
      refine ⟨_, Cell.at 0 rfl rfl, ?_⟩
      try with_reducible refine stI ?_
      try simp (maxSteps:=1000000)(dsimp:=false)(disch:=omega) only [go_sem, Φa, hP, h2_4, h2_0, h2_2, hops]
      refine ⟨_, Cell.at 0 rfl rfl, ?_⟩
      try with_reducible refine stI ?_
      try simp (maxSteps:=1000000)(dsimp:=false)(disch:=omega) only [go_sem, Φa, hP, h2_4, h2_0, h2_2, hops]
      refine ⟨_, Cell.at 0 rfl rfl, ?_⟩
      try with_reducible refine stI ?_
      try simp (maxSteps:=1000000)(dsimp:=false)(disch:=omega) only [go_sem, Φa, hP, h2_4, h2_0, h2_2, hops]
      refine ⟨_, Cell.at 0 rfl rfl, ?_⟩
      try with_reducible refine stI ?_
      try simp (maxSteps:=1000000)(dsimp:=false)(disch:=omega) only [go_sem, Φa, hP, h2_4, h2_0, h2_2, hops]
      refine ⟨_, Cell.at 0 rfl rfl, ?_⟩
      try with_reducible refine stI ?_
      try simp (maxSteps:=1000000)(dsimp:=false)(disch:=omega) only [go_sem, Φa, hP, h2_4, h2_0, h2_2, hops]
      refine ⟨_, Cell.at 0 rfl rfl, ?_⟩
      try with_reducible refine stI ?_
      try simp (maxSteps:=1000000)(dsimp:=false)(disch:=omega) only [go_sem, Φa, hP, h2_4, h2_0, h2_2, hops]
      refine ⟨_, Cell.at 0 rfl rfl, ?_⟩
      try with_reducible refine stI ?_
      try simp (maxSteps:=1000000)(dsimp:=false)(disch:=omega) only [go_sem, Φa, hP, h2_4, h2_0, h2_2, hops]
      refine ⟨_, Cell.at 0 rfl rfl, ?_⟩
      try with_reducible refine stI ?_
      try simp (maxSteps:=1000000)(dsimp:=false)(disch:=omega) only [go_sem, Φa, hP, h2_4, h2_0, h2_2, hops]
      refine ⟨_, Cell.at 0 rfl rfl, ?_⟩
      try with_reducible refine stI ?_
      try simp (maxSteps:=1000000)(dsimp:=false)(disch:=omega) only [go_sem, Φa, hP, h2_4, h2_0, h2_2, hops]
      refine ⟨_, Cell.at 0 rfl rfl, ?_⟩
      try with_reducible refine stI ?_
      try simp (maxSteps:=1000000)(dsimp:=false)(disch:=omega) only [go_sem, Φa, hP, h2_4, h2_0, h2_2, hops]
      refine ⟨_, Cell.at 0 rfl rfl, ?_⟩
      try with_reducible refine stI ?_
      try simp (maxSteps:=1000000)(dsimp:=false)(disch:=omega) only [go_sem, Φa, hP, h2_4, h2_0, h2_2, hops]
      refine ⟨_, Cell.at 0 rfl rfl, ?_⟩
      try with_reducible refine stI ?_
      try simp (maxSteps:=1000000)(dsimp:=false)(disch:=omega) only [go_sem, Φa, hP, h2_4, h2_0, h2_2, hops]
      refine ⟨_, Cell.at 0 rfl rfl, ?_⟩
      try with_reducible refine stI ?_
      try simp (maxSteps:=1000000)(dsimp:=false)(disch:=omega) only [go_sem, Φa, hP, h2_4, h2_0, h2_2, hops]
      refine ⟨_, Cell.at 0 rfl rfl, ?_⟩
      try with_reducible refine stI ?_
      try simp (maxSteps:=1000000)(dsimp:=false)(disch:=omega) only [go_sem, Φa, hP, h2_4, h2_0, h2_2, hops]
      refine ⟨_, Cell.at 0 rfl rfl, ?_⟩
      try with_reducible refine stI ?_
      try simp (maxSteps:=1000000)(dsimp:=false)(disch:=omega) only [go_sem, Φa, hP, h2_4, h2_0, h2_2, hops]
      refine ⟨_, Cell.at 0 rfl rfl, ?_⟩
      try with_reducible refine stI ?_
      try simp (maxSteps:=1000000)(dsimp:=false)(disch:=omega) only [go_sem, Φa, hP, h2_4, h2_0, h2_2, hops]
      refine ⟨_, Cell.at 0 rfl rfl, ?_⟩
      try with_reducible refine stI ?_
      try simp (maxSteps:=1000000)(dsimp:=false)(disch:=omega) only [go_sem, Φa, hP, h2_4, h2_0, h2_2, hops]
      refine ⟨_, Cell.at 0 rfl rfl, ?_⟩
      try with_reducible refine stI ?_
      try simp (maxSteps:=1000000)(dsimp:=false)(disch:=omega) only [go_sem, Φa, hP, h2_4, h2_0, h2_2, hops]
      refine ⟨_, Cell.at 0 rfl rfl, ?_⟩
      try with_reducible refine stI ?_
      try simp (maxSteps:=1000000)(dsimp:=false)(disch:=omega) only [go_sem, Φa, hP, h2_4, h2_0, h2_2, hops]
      refine ⟨_, Cell.at 0 rfl rfl, ?_⟩
      try with_reducible refine stI ?_
      try simp (maxSteps:=1000000)(dsimp:=false)(disch:=omega) only [go_sem, Φa, hP, h2_4, h2_0, h2_2, hops]
      refine ⟨_, Cell.at 0 rfl rfl, ?_⟩
      try with_reducible refine stI ?_
      try simp (maxSteps:=1000000)(dsimp:=false)(disch:=omega) only [go_sem, Φa, hP, h2_4, h2_0, h2_2, hops]
      refine ⟨_, Cell.at 0 rfl rfl, ?_⟩
      try with_reducible refine stI ?_
      try simp (maxSteps:=1000000)(dsimp:=false)(disch:=omega) only [go_sem, Φa, hP, h2_4, h2_0, h2_2, hops]
      refine ⟨_, Cell.at 0 rfl rfl, ?_⟩
      try with_reducible refine stI ?_
      try simp (maxSteps:=1000000)(dsimp:=false)(disch:=omega) only [go_sem, Φa, hP, h2_4, h2_0, h2_2, hops]
      refine ⟨3, _, _, _, rfl, by decide, .inr (by decide), ?_⟩
      try with_reducible refine stI ?_
      try simp (maxSteps:=1000000)(dsimp:=false)(disch:=omega) only [go_sem, Φa, hP, h2_4, h2_0, h2_2, hops]
      refine hK8 _ _ ?_
      try clear hK8 K8
      refine SX.ret ?_
      simp only [andThen_normal, andThen_ret, andThen_exit, inBlk_normal, inBlk_ret, inBlk_exit, Nat.reduceEqDiff, if_true, if_false, ↓reduceIte, retQ_ret]
      try simp only [res0,res1,res2,res3,stK_e,resX,resK,oneOr,ld_ptr,loadVC,loadN,List.nil_append,List.cons_append,Nat.reduceAdd,Nat.add_zero,Nat.zero_add,Addr.add_lit,Addr.add_zero',add_addS,T.elA_29,T.lay_29,T.szA_29,T.zr_29,Try.underlying29,go_sem,Φa,hP,h2_4,h2_0,h2_2]
      refine ⟨_, none :: some (b0, .cells (ints .u8 (List.replicate 256 0)).toArray 5 (0, 0)) :: some (b1, .cells (ints .u8 (p ++ List.replicate (3232 - p.length) 0)).toArray 5 (0, 0)) :: L, ?_, ⟨_, Cell.at 3 rfl rfl, _, Cell.at 3 rfl rfl, _, Cell.at 3 rfl rfl, _, Cell.at 3 rfl rfl, _, Cell.at 3 rfl rfl, _, Cell.at 3 rfl rfl, _, Cell.at 3 rfl rfl, _, Cell.at 3 rfl rfl, _, Cell.at 3 rfl rfl, _, Cell.at 3 rfl rfl, _, Cell.at 3 rfl rfl, _, Cell.at 3 rfl rfl, _, Cell.at 3 rfl rfl, _, Cell.at 3 rfl rfl, _, Cell.at 3 rfl rfl, _, Cell.at 3 rfl rfl, _, Cell.at 3 rfl rfl, _, Cell.at 3 rfl rfl, _, Cell.at 3 rfl rfl, _, Cell.at 3 rfl rfl, _, Cell.at 3 rfl rfl, _, Cell.at 3 rfl rfl, _, Cell.at 3 rfl rfl, rfl⟩, ?_⟩
      · rw [zerosI]
        exact (Less.sublist (.cons _ (.cons_cons _ (.cons_cons _ (.cons _ (List.Sublist.refl _)))))).trans ((Less.swap0 _ _ _).trans (Less.none _))
      · unfold newG
        rw [if_neg (by omega)]
        exact ⟨_, _, _, none, _, _, rfl, rfl, ⟨RowI.nil _ _, rowFull (by simp), rowFull (by simp; omega)⟩⟩
end Go.Proofs.Ytgioegdjeodpiaa
set_option linter.unusedVariables false
set_option linter.unusedSimpArgs false
namespace Go.Proofs.Ytgioegdjeodpiaa
open Go.RowKit Go.SX
open Go.SX renaming ia_someH → Φa

def decB (x : Int) : Int := if 0 < x then x - 1 else x
theorem decB_pos {x : Int} (h : 0 < x) : decB x = x - 1 := if_pos h
theorem decB_neg {x : Int} (h : ¬ 0 < x) : decB x = x := if_neg h
def tickK (g : GM) : Nat → GM
  | 0 => g
  | 1 => { g with dl := decB g.dl }
  | _ => { g with dl := decB g.dl, sd := decB g.sd }
theorem tick_a {g : GM} (h : 0 < g.dl) : tickK g 1 = { g with dl := g.dl - 1 } := by
  show ({ g with dl := decB g.dl } : GM) = _
  rw [decB_pos h]
theorem tick_b {g : GM} (h : ¬ 0 < g.dl) : tickK g 1 = tickK g 0 := by
  show ({ g with dl := decB g.dl } : GM) = g
  rw [decB_neg h]
theorem tick_c {g : GM} (h : 0 < g.sd) : tickK g 2 = { tickK g 1 with sd := g.sd - 1 } := by
  show ({ g with dl := decB g.dl, sd := decB g.sd } : GM) = { g with dl := decB g.dl, sd := g.sd - 1 }
  rw [decB_pos h]
theorem tick_d {g : GM} (h : ¬ 0 < g.sd) : tickK g 2 = tickK g 1 := by
  show ({ g with dl := decB g.dl, sd := decB g.sd } : GM) = { g with dl := decB g.dl }
  rw [decB_neg h]
def tickG (g : GM) : GM := if checkE g ≠ 0 then zeroG else tickK g 2
set_option maxHeartbeats 1000000 in
set_option maxRecDepth 100000 in
theorem Tick_spec {Γ : Ctx} (hP : Γ.P = Try.prog) {L : Hp} {g : GM} {sv pv mv : Value} (hg : OkG g) (hs : SlI .u16 (Cell Γ L) sv g.st) (hp : SlI .u8 (Cell Γ L) pv g.pg) (hm : SlI .u8 (Cell Γ L) mv g.mm) (hsl : g.st.length ≤ 2147483647) (hpl : g.pg.length ≤ 2147483647) (hml : g.mm.length ≤ 2147483647) :
    SCall Γ 31 #[(.agg (g.cells sv pv mv).toArray)] L (cloneG (tickG g) L) := by
  obtain ⟨As, cs, rfl, hcs⟩ := slShape hs
  obtain ⟨Ap, cp, rfl, hcp⟩ := slShape hp
  obtain ⟨Am, cm, rfl, hcm⟩ := slShape hm
  have hdl := hg.dl
  have hsd := hg.sd
  refine SCall.enter (n := 30) (resX Γ [.cell 2 29]) (hP ▸ Try.func31) rfl rfl (by simp) (resX_ok rfl) ?_
  refine SX.seq_k fun K1 hK1 => ?_
  refine SX.region_d [some 1, some 2] rfl (fun ops hops => ?_)
  unfold Dsts at hops
  simp (maxSteps:=1000000)(dsimp:=false)(disch:=omega) only [go_sem, Φa, hP, hops]
  intro b0
  try with_reducible refine stI ?_
  try simp (maxSteps:=1000000)(dsimp:=false)(disch:=omega) only [go_sem, Φa, hP, hops]
  intro b1
  try with_reducible refine stI ?_
  try simp (maxSteps:=1000000)(dsimp:=false)(disch:=omega) only [go_sem, Φa, hP, hops]
  refine hK1 _ _ ?_
  try clear hK1 K1
  refine SX.seq_k fun K2 hK2 => ?_
  refine SX.seq_k fun K3 hK3 => ?_
  refine SX.region_d [some 5, some 6, some 7] rfl (fun ops hops => ?_)
  unfold Dsts at hops
  simp (maxSteps:=1000000)(dsimp:=false)(disch:=omega) only [go_sem, Φa, hP, hops]
  refine ⟨_, Cell.at 1 rfl rfl, ?_⟩
  try with_reducible refine stI ?_
  try simp (maxSteps:=1000000)(dsimp:=false)(disch:=omega) only [go_sem, Φa, hP, hops]
  refine ⟨_, Cell.at 1 rfl rfl, ?_⟩
  try with_reducible refine stI ?_
  try simp (maxSteps:=1000000)(dsimp:=false)(disch:=omega) only [go_sem, Φa, hP, hops]
  refine ⟨_, Cell.at 1 rfl rfl, ?_⟩
  try with_reducible refine stI ?_
  try simp (maxSteps:=1000000)(dsimp:=false)(disch:=omega) only [go_sem, Φa, hP, hops]
  refine ⟨_, Cell.at 1 rfl rfl, ?_⟩
  try with_reducible refine stI ?_
  try simp (maxSteps:=1000000)(dsimp:=false)(disch:=omega) only [go_sem, Φa, hP, hops]
  refine ⟨_, Cell.at 1 rfl rfl, ?_⟩
  try with_reducible refine stI ?_
  try simp (maxSteps:=1000000)(dsimp:=false)(disch:=omega) only [go_sem, Φa, hP, hops]
  refine ⟨_, Cell.at 1 rfl rfl, ?_⟩
  try with_reducible refine stI ?_
  try simp (maxSteps:=1000000)(dsimp:=false)(disch:=omega) only [go_sem, Φa, hP, hops]
  refine ⟨_, Cell.at 1 rfl rfl, ?_⟩
  try with_reducible refine stI ?_
  try simp (maxSteps:=1000000)(dsimp:=false)(disch:=omega) only [go_sem, Φa, hP, hops]
  refine ⟨_, Cell.at 1 rfl rfl, ?_⟩
  try with_reducible refine stI ?_
  try simp (maxSteps:=1000000)(dsimp:=false)(disch:=omega) only [go_sem, Φa, hP, hops]
  refine ⟨_, Cell.at 1 rfl rfl, ?_⟩
  try with_reducible refine stI ?_
  try simp (maxSteps:=1000000)(dsimp:=false)(disch:=omega) only [go_sem, Φa, hP, hops]
  refine ⟨_, Cell.at 1 rfl rfl, ?_⟩
  try with_reducible refine stI ?_
  try simp (maxSteps:=1000000)(dsimp:=false)(disch:=omega) only [go_sem, Φa, hP, hops]
  refine ⟨_, Cell.at 1 rfl rfl, ?_⟩
  try with_reducible refine stI ?_
  try simp (maxSteps:=1000000)(dsimp:=false)(disch:=omega) only [go_sem, Φa, hP, hops]
  refine ⟨_, Cell.at 1 rfl rfl, ?_⟩
  try with_reducible refine stI ?_
  try simp (maxSteps:=1000000)(dsimp:=false)(disch:=omega) only [go_sem, Φa, hP, hops]
  refine ⟨_, Cell.at 1 rfl rfl, ?_⟩
  try with_reducible refine stI ?_
  try simp (maxSteps:=1000000)(dsimp:=false)(disch:=omega) only [go_sem, Φa, hP, hops]
  refine ⟨_, Cell.at 1 rfl rfl, ?_⟩
  try with_reducible refine stI ?_
  try simp (maxSteps:=1000000)(dsimp:=false)(disch:=omega) only [go_sem, Φa, hP, hops]
  refine ⟨_, Cell.at 1 rfl rfl, ?_⟩
  try with_reducible refine stI ?_
  try simp (maxSteps:=1000000)(dsimp:=false)(disch:=omega) only [go_sem, Φa, hP, hops]
  refine ⟨_, Cell.at 1 rfl rfl, ?_⟩
  try with_reducible refine stI ?_
  try simp (maxSteps:=1000000)(dsimp:=false)(disch:=omega) only [go_sem, Φa, hP, hops]
  refine ⟨_, Cell.at 1 rfl rfl, ?_⟩
  try with_reducible refine stI ?_
  try simp (maxSteps:=1000000)(dsimp:=false)(disch:=omega) only [go_sem, Φa, hP, hops]
  refine ⟨_, Cell.at 1 rfl rfl, ?_⟩
  try with_reducible refine stI ?_
  try simp (maxSteps:=1000000)(dsimp:=false)(disch:=omega) only [go_sem, Φa, hP, hops]
  refine ⟨_, Cell.at 1 rfl rfl, ?_⟩
  try with_reducible refine stI ?_
  try simp (maxSteps:=1000000)(dsimp:=false)(disch:=omega) only [go_sem, Φa, hP, hops]
  refine ⟨_, Cell.at 1 rfl rfl, ?_⟩
  try with_reducible refine stI ?_
  try simp (maxSteps:=1000000)(dsimp:=false)(disch:=omega) only [go_sem, Φa, hP, hops]
  refine ⟨_, Cell.at 1 rfl rfl, ?_⟩
  try with_reducible refine stI ?_
  try simp (maxSteps:=1000000)(dsimp:=false)(disch:=omega) only [go_sem, Φa, hP, hops]
  refine ⟨_, Cell.at 1 rfl rfl, ?_⟩
  try with_reducible refine stI ?_
  try simp (maxSteps:=1000000)(dsimp:=false)(disch:=omega) only [go_sem, Φa, hP, hops]
  refine ⟨_, Cell.at 1 rfl rfl, ?_⟩
  try with_reducible refine stI ?_
  try simp (maxSteps:=1000000)(dsimp:=false)(disch:=omega) only [go_sem, Φa, hP, hops]
  first | (refine SCall.mono (Check_spec (g := g) (sv := .slice As g.st.length cs) (pv := .slice Ap g.pg.length cp) (mv := .slice Am g.mm.length cm) hP (SlI.cons _ (SlI.cons _ hs)) (SlI.cons _ (SlI.cons _ hp)) (SlI.cons _ (SlI.cons _ hm)) (by omega) (by omega) (by omega)) ?_; rintro v_ L_ ⟨hv_, hL_⟩; rw [hv_, hL_]; clear hv_ hL_ v_ L_) | refine ⟨_, Check_spec (g := g) (sv := .slice As g.st.length cs) (pv := .slice Ap g.pg.length cp) (mv := .slice Am g.mm.length cm) hP (SlI.cons _ (SlI.cons _ hs)) (SlI.cons _ (SlI.cons _ hp)) (SlI.cons _ (SlI.cons _ hm)) (by omega) (by omega) (by omega), ?_⟩ | refine ⟨_, fun L0 hl0 => Check_spec (g := g) (sv := .slice As g.st.length cs) (pv := .slice Ap g.pg.length cp) (mv := .slice Am g.mm.length cm) hP (SlI.cons _ (SlI.cons _ hs)) (SlI.cons _ (SlI.cons _ hp)) (SlI.cons _ (SlI.cons _ hm)) (by omega) (by omega) (by omega), ?_⟩
  try with_reducible refine stI ?_
  try simp (maxSteps:=1000000)(dsimp:=false)(disch:=omega) only [go_sem, Φa, hP, hops]
  refine hK3 _ _ ?_
  try clear hK3 K3
  refine SX.cond_k fun X4 Y4 hX4 hY4 => ?_
  simp (maxSteps:=1000000)(dsimp:=false)(disch:=omega) only [go_sem, Φa, hP, condVC]
  refine ⟨fun hc7 => hX4 ?_, fun hc7 => hY4 ?_⟩
  · clear hX4 hY4 X4 Y4
    refine SX.seq_k fun K5 hK5 => ?_
    refine SX.region_d [some 8, none] rfl (fun ops hops => ?_)
    unfold Dsts at hops
    simp (maxSteps:=1000000)(dsimp:=false)(disch:=omega) only [go_sem, Φa, hP, hops]
    refine ⟨0, _, _, _, rfl, by decide, .inr (by decide), ?_⟩
    try with_reducible refine stI ?_
    try simp (maxSteps:=1000000)(dsimp:=false)(disch:=omega) only [go_sem, Φa, hP, hops]
    refine hK5 _ _ ?_
    try clear hK5 K5
    refine SX.ret ?_
    simp only [andThen_normal, andThen_ret, andThen_exit, inBlk_normal, inBlk_ret, inBlk_exit, Nat.reduceEqDiff, if_true, if_false, ↓reduceIte, retQ_ret]
    try simp only [res0,res1,res2,res3,stK_e,resX,resK,oneOr,ld_ptr,loadVC,loadN,List.nil_append,List.cons_append,Nat.reduceAdd,Nat.add_zero,Nat.zero_add,Addr.add_lit,Addr.add_zero',add_addS,T.elA_29,T.lay_29,T.szA_29,T.zr_29,Try.underlying29,go_sem,Φa,hP]
    refine ⟨_, _, (Less.drops (Less.drop _ _)).trans ((Less.none _).trans ((Less.none _).trans (Less.none _))), ⟨_, Cell.at 0 rfl rfl, _, Cell.at 0 rfl rfl, _, Cell.at 0 rfl rfl, _, Cell.at 0 rfl rfl, _, Cell.at 0 rfl rfl, _, Cell.at 0 rfl rfl, _, Cell.at 0 rfl rfl, _, Cell.at 0 rfl rfl, _, Cell.at 0 rfl rfl, _, Cell.at 0 rfl rfl, _, Cell.at 0 rfl rfl, _, Cell.at 0 rfl rfl, _, Cell.at 0 rfl rfl, _, Cell.at 0 rfl rfl, _, Cell.at 0 rfl rfl, _, Cell.at 0 rfl rfl, _, Cell.at 0 rfl rfl, _, Cell.at 0 rfl rfl, _, Cell.at 0 rfl rfl, _, Cell.at 0 rfl rfl, _, Cell.at 0 rfl rfl, _, Cell.at 0 rfl rfl, _, Cell.at 0 rfl rfl, rfl⟩, ?_⟩
    unfold tickG
    rw [if_pos (by simpa using hc7)]
    exact ⟨_, _, _, _, _, _, rfl, rfl, ⟨RowI.nil _ _, RowI.nil _ _, RowI.nil _ _⟩⟩
  · clear hX4 hY4 X4 Y4
    refine SX.skip ?_
    try simp only [andThen_normal, andThen_ret, andThen_exit, inBlk_normal, inBlk_ret, inBlk_exit, Nat.reduceEqDiff, if_true, if_false, ↓reduceIte]
    refine hK2 _ _ ?_
    try clear hK2 K2
    refine SX.seq_k fun K6 hK6 => ?_
    have hsl2 : g.st.length ≤ 1000000 := by unfold checkE at hc7; split at hc7 <;> omega
    have hpl2 : g.pg.length ≤ 1000000 := by unfold checkE at hc7; split at hc7 <;> omega
    have hml2 : g.mm.length ≤ 1000000 := by unfold checkE at hc7; split at hc7 <;> omega
    refine SX.region_d [some 9, some 10, none] rfl (fun ops hops => ?_)
    unfold Dsts at hops
    simp (maxSteps:=1000000)(dsimp:=false)(disch:=omega) only [go_sem, Φa, hP, hops]
    refine ⟨_, Cell.at 1 rfl rfl, ?_⟩
    try with_reducible refine stI ?_
    try simp (maxSteps:=1000000)(dsimp:=false)(disch:=omega) only [go_sem, Φa, hP, hops]
    refine ⟨_, Cell.at 1 rfl rfl, ?_⟩
    try with_reducible refine stI ?_
    try simp (maxSteps:=1000000)(dsimp:=false)(disch:=omega) only [go_sem, Φa, hP, hops]
    refine ⟨_, Cell.at 1 rfl rfl, ?_⟩
    try with_reducible refine stI ?_
    try simp (maxSteps:=1000000)(dsimp:=false)(disch:=omega) only [go_sem, Φa, hP, hops]
    refine ⟨_, Cell.at 1 rfl rfl, ?_⟩
    try with_reducible refine stI ?_
    try simp (maxSteps:=1000000)(dsimp:=false)(disch:=omega) only [go_sem, Φa, hP, hops]
    refine ⟨_, Cell.at 1 rfl rfl, ?_⟩
    try with_reducible refine stI ?_
    try simp (maxSteps:=1000000)(dsimp:=false)(disch:=omega) only [go_sem, Φa, hP, hops]
    refine ⟨_, Cell.at 1 rfl rfl, ?_⟩
    try with_reducible refine stI ?_
    try simp (maxSteps:=1000000)(dsimp:=false)(disch:=omega) only [go_sem, Φa, hP, hops]
    refine ⟨_, Cell.at 1 rfl rfl, ?_⟩
    try with_reducible refine stI ?_
    try simp (maxSteps:=1000000)(dsimp:=false)(disch:=omega) only [go_sem, Φa, hP, hops]
    refine ⟨_, Cell.at 1 rfl rfl, ?_⟩
    try with_reducible refine stI ?_
    try simp (maxSteps:=1000000)(dsimp:=false)(disch:=omega) only [go_sem, Φa, hP, hops]
    refine ⟨_, Cell.at 1 rfl rfl, ?_⟩
    try with_reducible refine stI ?_
    try simp (maxSteps:=1000000)(dsimp:=false)(disch:=omega) only [go_sem, Φa, hP, hops]
    refine ⟨_, Cell.at 1 rfl rfl, ?_⟩
    try with_reducible refine stI ?_
    try simp (maxSteps:=1000000)(dsimp:=false)(disch:=omega) only [go_sem, Φa, hP, hops]
    refine ⟨_, Cell.at 1 rfl rfl, ?_⟩
    try with_reducible refine stI ?_
    try simp (maxSteps:=1000000)(dsimp:=false)(disch:=omega) only [go_sem, Φa, hP, hops]
    refine ⟨_, Cell.at 1 rfl rfl, ?_⟩
    try with_reducible refine stI ?_
    try simp (maxSteps:=1000000)(dsimp:=false)(disch:=omega) only [go_sem, Φa, hP, hops]
    refine ⟨_, Cell.at 1 rfl rfl, ?_⟩
    try with_reducible refine stI ?_
    try simp (maxSteps:=1000000)(dsimp:=false)(disch:=omega) only [go_sem, Φa, hP, hops]
    refine ⟨_, Cell.at 1 rfl rfl, ?_⟩
    try with_reducible refine stI ?_
    try simp (maxSteps:=1000000)(dsimp:=false)(disch:=omega) only [go_sem, Φa, hP, hops]
    refine ⟨_, Cell.at 1 rfl rfl, ?_⟩
    try with_reducible refine stI ?_
    try simp (maxSteps:=1000000)(dsimp:=false)(disch:=omega) only [go_sem, Φa, hP, hops]
    refine ⟨_, Cell.at 1 rfl rfl, ?_⟩
    try with_reducible refine stI ?_
    try simp (maxSteps:=1000000)(dsimp:=false)(disch:=omega) only [go_sem, Φa, hP, hops]
    refine ⟨_, Cell.at 1 rfl rfl, ?_⟩
    try with_reducible refine stI ?_
    try simp (maxSteps:=1000000)(dsimp:=false)(disch:=omega) only [go_sem, Φa, hP, hops]
    refine ⟨_, Cell.at 1 rfl rfl, ?_⟩
    try with_reducible refine stI ?_
    try simp (maxSteps:=1000000)(dsimp:=false)(disch:=omega) only [go_sem, Φa, hP, hops]
    refine ⟨_, Cell.at 1 rfl rfl, ?_⟩
    try with_reducible refine stI ?_
    try simp (maxSteps:=1000000)(dsimp:=false)(disch:=omega) only [go_sem, Φa, hP, hops]
    refine ⟨_, Cell.at 1 rfl rfl, ?_⟩
    try with_reducible refine stI ?_
    try simp (maxSteps:=1000000)(dsimp:=false)(disch:=omega) only [go_sem, Φa, hP, hops]
    refine ⟨_, Cell.at 1 rfl rfl, ?_⟩
    try with_reducible refine stI ?_
    try simp (maxSteps:=1000000)(dsimp:=false)(disch:=omega) only [go_sem, Φa, hP, hops]
    refine ⟨_, Cell.at 1 rfl rfl, ?_⟩
    try with_reducible refine stI ?_
    try simp (maxSteps:=1000000)(dsimp:=false)(disch:=omega) only [go_sem, Φa, hP, hops]
    refine ⟨_, Cell.at 1 rfl rfl, ?_⟩
    try with_reducible refine stI ?_
    try simp (maxSteps:=1000000)(dsimp:=false)(disch:=omega) only [go_sem, Φa, hP, hops]
    refine SCall.mono (clone_spec (g := g) (sv := .slice As g.st.length cs) (pv := .slice Ap g.pg.length cp) (mv := .slice Am g.mm.length cm) hP (SlI.cons _ (SlI.cons _ hs)) (SlI.cons _ (SlI.cons _ hp)) (SlI.cons _ (SlI.cons _ hm)) hsl2 hpl2 hml2) ?_
    rintro v_ L_ ⟨sv1, pv1, mv1, t1, t2, t3, rfl, rfl, hrc⟩
    obtain ⟨Y1, y1, rfl, hy1⟩ := rowShape hrc.st
    obtain ⟨Y2, y2, rfl, hy2⟩ := rowShape hrc.pg
    obtain ⟨Y3, y3, rfl, hy3⟩ := rowShape hrc.mm
    unfold GM.cells
    try with_reducible refine stI ?_
    try simp (maxSteps:=1000000)(dsimp:=false)(disch:=omega) only [go_sem, Φa, hP, hops]
    refine ⟨4, _, _, _, rfl, (by simp), .inr (by decide), ?_⟩
    try with_reducible refine stI ?_
    try simp (maxSteps:=1000000)(dsimp:=false)(disch:=omega) only [go_sem, Φa, hP, hops]
    refine hK6 _ _ ?_
    try clear hK6 K6
    refine SX.seq_k fun K7 hK7 => ?_
    refine SX.seq_k fun K8 hK8 => ?_
    refine SX.region_d [some 11, some 12, some 13, some 14, some 15] rfl (fun ops hops => ?_)
    unfold Dsts at hops
    simp (maxSteps:=1000000)(dsimp:=false)(disch:=omega) only [go_sem, Φa, hP, hops]
    intro bs
    try with_reducible refine stI ?_
    try simp (maxSteps:=1000000)(dsimp:=false)(disch:=omega) only [go_sem, Φa, hP, hops]
    refine hK8 _ _ ?_
    try clear hK8 K8
    refine SX.live [1, 2, 13, 14, 15] (fun T1 hT1 => ?_)
    simp only [forall_mem_cons', forall_mem_nil', go_sem, Φa, hP] at hT1
    obtain ⟨h1_1, h1_2, h1_13, h1_14, h1_15⟩ := hT1
    refine SX.block ?_
    refine SX.live [1, 2, 13, 14, 15] (fun T2 hT2 => ?_)
    simp only [forall_mem_cons', forall_mem_nil', go_sem, Φa, hP, h1_1, h1_2, h1_13, h1_14, h1_15] at hT2
    obtain ⟨h2_1, h2_2, h2_13, h2_14, h2_15⟩ := hT2
    clear h1_1 h1_2 h1_13 h1_14 h1_15 T1
    refine SX.loop_k (fun (ss : (Nat)) T L' => (fun (k : Nat) => T 15 = .int .i64 (k : Int) ∧ T 1 = T2 1 ∧ T 2 = T2 2 ∧ T 13 = T2 13 ∧ T 14 = T2 14 ∧ L' = some (bs, .cells #[.pointer (some ⟨b0, 19, none⟩), .pointer (some ⟨b0, 20, none⟩)] 74 (0, 0)) :: t1 :: t2 :: t3 :: some (b1, .cells #[.int .u8 0, .int .u8 0, .int .u8 0, .int .u8 0, .int .u8 0, .int .u8 0, .int .u8 0, .int .u8 0, .int .u8 0, .int .u8 0, .int .u8 0, .int .u8 0, .int .u8 0, .int .u8 0, .int .u8 0, .int .u8 0, .int .u16 0, .int .u16 0, .slice none 0 0, .int .u8 0, .int .u8 0, .slice none 0 0, .slice none 0 0] 29 (0, 0)) :: some (b0, .cells ((tickK g k).cells (.slice Y1 g.st.length y1) (.slice Y2 g.pg.length y2) (.slice Y3 g.mm.length y3)).toArray 29 (0, 0)) :: L ∧ (k ≤ 2)) (ss)) (fun (ss : (Nat)) => (fun (k : Nat) => 2 - k) (ss)) 0 ?_ ?_
    · try dsimp only
      refine ⟨?_, ?_, ?_, ?_, ?_, ?_, ?_⟩
      · first | exact h2_15 | (rw [h2_15]; rfl) | (rw [h2_15]; simp; done)
      · rfl
      · rfl
      · rfl
      · rfl
      · rfl
      · exact Nat.zero_le _
    · intro k T3 L3 hI K9 hK9
      try dsimp only at hI hK9
      simp only [h2_1, h2_2, h2_13, h2_14] at hI hK9
      obtain ⟨h3_15, h3_1, h3_2, h3_13, h3_14, hL3, hk⟩ := hI
      replace hL3 := hL3.symm
      subst hL3
      clear h2_1 h2_2 h2_13 h2_14 h2_15 T2
      refine SX.seq_k fun K10 hK10 => ?_
      refine SX.region_d [some 16] rfl (fun ops hops => ?_)
      unfold Dsts at hops
      simp (maxSteps:=1000000)(dsimp:=false)(disch:=omega) only [go_sem, Φa, hP, h3_15, h3_1, h3_2, h3_13, h3_14, hops]
      repeat' ((first | refine And.intro (by omega) ?_ | fail); try (with_reducible refine stI ?_); try simp (maxSteps:=1000000)(dsimp:=false)(disch:=omega) only [go_sem, Φa, hP, h3_15, h3_1, h3_2, h3_13, h3_14, hops])
      refine hK10 _ _ ?_
      try clear hK10 K10
      refine SX.seq_k fun K11 hK11 => ?_
      refine SX.cond_k fun X12 Y12 hX12 hY12 => ?_
      simp (maxSteps:=1000000)(dsimp:=false)(disch:=omega) only [go_sem, Φa, hP, h3_15, h3_1, h3_2, h3_13, h3_14, condVC]
      refine ⟨fun hc16 => hX12 ?_, fun hc16 => hY12 ?_⟩
      · clear hX12 hY12 X12 Y12
        refine SX.skip ?_
        try simp only [andThen_normal, andThen_ret, andThen_exit, inBlk_normal, inBlk_ret, inBlk_exit, Nat.reduceEqDiff, if_true, if_false, ↓reduceIte]
        refine hK11 _ _ ?_
        try clear hK11 K11
        refine SX.seq_k fun K13 hK13 => ?_
        refine SX.block ?_
        refine SX.seq_k fun K14 hK14 => ?_
        refine SX.region_d [some 17, some 18, some 4] rfl (fun ops hops => ?_)
        unfold Dsts at hops
        simp (maxSteps:=1000000)(dsimp:=false)(disch:=omega) only [go_sem, Φa, hP, h3_15, h3_1, h3_2, h3_13, h3_14, hops]
        have hk2 : k < 2 := by omega
        obtain rfl | rfl : k = 0 ∨ k = 1 := by omega
        · skip
          try with_reducible refine stI ?_
          try with_reducible refine stI ?_
          try simp (maxSteps:=1000000)(dsimp:=false)(disch:=omega) only [go_sem, Φa, hP, h3_15, h3_1, h3_2, h3_13, h3_14, hops]
          refine ⟨_, Cell.at 0 rfl (show [Value.pointer (some ⟨b0, 19, none⟩), Value.pointer (some ⟨b0, 20, none⟩)][0]? = some (.pointer (some ⟨b0, 19, none⟩)) from rfl), ?_⟩
          try with_reducible refine stI ?_
          try simp (maxSteps:=1000000)(dsimp:=false)(disch:=omega) only [go_sem, Φa, hP, h3_15, h3_1, h3_2, h3_13, h3_14, hops]
          refine hK14 _ _ ?_
          try clear hK14 K14
          refine SX.seq_k fun K15 hK15 => ?_
          refine SX.region_d [some 19, some 20, some 21, some 22] rfl (fun ops hops => ?_)
          unfold Dsts at hops
          simp (maxSteps:=1000000)(dsimp:=false)(disch:=omega) only [go_sem, Φa, hP, h3_15, h3_1, h3_2, h3_13, h3_14, hops]
          refine ⟨_, Cell.at 5 rfl (show ((tickK g 0).cells _ _ _)[19]? = some (.int .u8 g.dl) from rfl), ?_⟩
          try with_reducible refine stI ?_
          try simp (maxSteps:=1000000)(dsimp:=false)(disch:=omega) only [go_sem, Φa, hP, h3_15, h3_1, h3_2, h3_13, h3_14, hops]
          refine hK15 _ _ ?_
          try clear hK15 K15
          refine SX.cond_k fun X16 Y16 hX16 hY16 => ?_
          simp (maxSteps:=1000000)(dsimp:=false)(disch:=omega) only [go_sem, Φa, hP, h3_15, h3_1, h3_2, h3_13, h3_14, condVC]
          refine ⟨fun hc22 => hX16 ?_, fun hc22 => hY16 ?_⟩
          · clear hX16 hY16 X16 Y16
            refine SX.region_d [some 23, some 24, some 25, some 26, some 27, none] rfl (fun ops hops => ?_)
            unfold Dsts at hops
            simp (maxSteps:=1000000)(dsimp:=false)(disch:=omega) only [go_sem, Φa, hP, h3_15, h3_1, h3_2, h3_13, h3_14, hops]
            refine ⟨_, Cell.at 5 rfl (show ((tickK g 0).cells _ _ _)[19]? = some (.int .u8 g.dl) from rfl), ?_⟩
            try with_reducible refine stI ?_
            try simp (maxSteps:=1000000)(dsimp:=false)(disch:=omega) only [go_sem, Φa, hP, h3_15, h3_1, h3_2, h3_13, h3_14, hops]
            refine ⟨5, _, _, _, rfl, (by simp [GM.cells]), .inr (by decide), ?_⟩
            try with_reducible refine stI ?_
            try simp (maxSteps:=1000000)(dsimp:=false)(disch:=omega) only [go_sem, Φa, hP, h3_15, h3_1, h3_2, h3_13, h3_14, hops]
            refine hK13 _ _ ?_
            try clear hK13 K13
            refine SX.live [1, 2, 13, 14, 15] (fun T4 hT4 => ?_)
            simp only [forall_mem_cons', forall_mem_nil', go_sem, Φa, hP, h3_15, h3_1, h3_2, h3_13, h3_14] at hT4
            obtain ⟨h4_1, h4_2, h4_13, h4_14, h4_15⟩ := hT4
            clear h3_15 h3_1 h3_2 h3_13 h3_14 T3
            refine SX.region_d [some 28, some 15] rfl (fun ops hops => ?_)
            unfold Dsts at hops
            simp (maxSteps:=1000000)(dsimp:=false)(disch:=omega) only [go_sem, Φa, hP, h4_1, h4_2, h4_13, h4_14, h4_15, hops]
            repeat' ((first | refine And.intro (by omega) ?_ | fail); try (with_reducible refine stI ?_); try simp (maxSteps:=1000000)(dsimp:=false)(disch:=omega) only [go_sem, Φa, hP, h4_1, h4_2, h4_13, h4_14, h4_15, hops])
            refine hK9 1 _ (some (bs, .cells #[.pointer (some ⟨b0, 19, none⟩), .pointer (some ⟨b0, 20, none⟩)] 74 (0, 0)) :: t1 :: t2 :: t3 :: some (b1, .cells #[.int .u8 0, .int .u8 0, .int .u8 0, .int .u8 0, .int .u8 0, .int .u8 0, .int .u8 0, .int .u8 0, .int .u8 0, .int .u8 0, .int .u8 0, .int .u8 0, .int .u8 0, .int .u8 0, .int .u8 0, .int .u8 0, .int .u16 0, .int .u16 0, .slice none 0 0, .int .u8 0, .int .u8 0, .slice none 0 0, .slice none 0 0] 29 (0, 0)) :: some (b0, .cells ((tickK g 1).cells (.slice Y1 g.st.length y1) (.slice Y2 g.pg.length y2) (.slice Y3 g.mm.length y3)).toArray 29 (0, 0)) :: L) _ (by rw [tick_a (by omega)]; exact Less.refl _) ?_ ?_
            · try dsimp only
              refine ⟨?_, ?_, ?_, ?_, ?_, ?_, ?_⟩
              · simp (maxSteps:=1000000)(dsimp:=false)(disch:=omega) only [go_sem, Φa, hP, h4_1, h4_2, h4_13, h4_14, h4_15]
                first | done | rfl | skip
              · simp (maxSteps:=1000000)(dsimp:=false)(disch:=omega) only [go_sem, Φa, hP, h4_1, h4_2, h4_13, h4_14, h4_15]
              · simp (maxSteps:=1000000)(dsimp:=false)(disch:=omega) only [go_sem, Φa, hP, h4_1, h4_2, h4_13, h4_14, h4_15]
              · simp (maxSteps:=1000000)(dsimp:=false)(disch:=omega) only [go_sem, Φa, hP, h4_1, h4_2, h4_13, h4_14, h4_15]
              · simp (maxSteps:=1000000)(dsimp:=false)(disch:=omega) only [go_sem, Φa, hP, h4_1, h4_2, h4_13, h4_14, h4_15]
              · rfl
              · omega
            · (try dsimp only); omega
          · clear hX16 hY16 X16 Y16
            refine SX.skip ?_
            try simp only [andThen_normal, andThen_ret, andThen_exit, inBlk_normal, inBlk_ret, inBlk_exit, Nat.reduceEqDiff, if_true, if_false, ↓reduceIte]
            refine hK13 _ _ ?_
            try clear hK13 K13
            refine SX.region_d [some 28, some 15] rfl (fun ops hops => ?_)
            unfold Dsts at hops
            simp (maxSteps:=1000000)(dsimp:=false)(disch:=omega) only [go_sem, Φa, hP, h3_15, h3_1, h3_2, h3_13, h3_14, hops]
            repeat' ((first | refine And.intro (by omega) ?_ | fail); try (with_reducible refine stI ?_); try simp (maxSteps:=1000000)(dsimp:=false)(disch:=omega) only [go_sem, Φa, hP, h3_15, h3_1, h3_2, h3_13, h3_14, hops])
            refine hK9 1 _ (some (bs, .cells #[.pointer (some ⟨b0, 19, none⟩), .pointer (some ⟨b0, 20, none⟩)] 74 (0, 0)) :: t1 :: t2 :: t3 :: some (b1, .cells #[.int .u8 0, .int .u8 0, .int .u8 0, .int .u8 0, .int .u8 0, .int .u8 0, .int .u8 0, .int .u8 0, .int .u8 0, .int .u8 0, .int .u8 0, .int .u8 0, .int .u8 0, .int .u8 0, .int .u8 0, .int .u8 0, .int .u16 0, .int .u16 0, .slice none 0 0, .int .u8 0, .int .u8 0, .slice none 0 0, .slice none 0 0] 29 (0, 0)) :: some (b0, .cells ((tickK g 1).cells (.slice Y1 g.st.length y1) (.slice Y2 g.pg.length y2) (.slice Y3 g.mm.length y3)).toArray 29 (0, 0)) :: L) _ (by rw [tick_b (by omega)]; exact Less.refl _) ?_ ?_
            · try dsimp only
              refine ⟨?_, ?_, ?_, ?_, ?_, ?_, ?_⟩
              · simp (maxSteps:=1000000)(dsimp:=false)(disch:=omega) only [go_sem, Φa, hP, h3_15, h3_1, h3_2, h3_13, h3_14]
                first | done | rfl | skip
              · simp (maxSteps:=1000000)(dsimp:=false)(disch:=omega) only [go_sem, Φa, hP, h3_15, h3_1, h3_2, h3_13, h3_14]
              · simp (maxSteps:=1000000)(dsimp:=false)(disch:=omega) only [go_sem, Φa, hP, h3_15, h3_1, h3_2, h3_13, h3_14]
              · simp (maxSteps:=1000000)(dsimp:=false)(disch:=omega) only [go_sem, Φa, hP, h3_15, h3_1, h3_2, h3_13, h3_14]
              · simp (maxSteps:=1000000)(dsimp:=false)(disch:=omega) only [go_sem, Φa, hP, h3_15, h3_1, h3_2, h3_13, h3_14]
              · rfl
              · omega
            · (try dsimp only); omega
        · skip
          try with_reducible refine stI ?_
          try with_reducible refine stI ?_
          try simp (maxSteps:=1000000)(dsimp:=false)(disch:=omega) only [go_sem, Φa, hP, h3_15, h3_1, h3_2, h3_13, h3_14, hops]
          refine ⟨_, Cell.at 0 rfl (show [Value.pointer (some ⟨b0, 19, none⟩), Value.pointer (some ⟨b0, 20, none⟩)][1]? = some (.pointer (some ⟨b0, 20, none⟩)) from rfl), ?_⟩
          try with_reducible refine stI ?_
          try simp (maxSteps:=1000000)(dsimp:=false)(disch:=omega) only [go_sem, Φa, hP, h3_15, h3_1, h3_2, h3_13, h3_14, hops]
          refine hK14 _ _ ?_
          try clear hK14 K14
          refine SX.seq_k fun K17 hK17 => ?_
          refine SX.region_d [some 19, some 20, some 21, some 22] rfl (fun ops hops => ?_)
          unfold Dsts at hops
          simp (maxSteps:=1000000)(dsimp:=false)(disch:=omega) only [go_sem, Φa, hP, h3_15, h3_1, h3_2, h3_13, h3_14, hops]
          refine ⟨_, Cell.at 5 rfl (show ((tickK g 1).cells _ _ _)[20]? = some (.int .u8 g.sd) from rfl), ?_⟩
          try with_reducible refine stI ?_
          try simp (maxSteps:=1000000)(dsimp:=false)(disch:=omega) only [go_sem, Φa, hP, h3_15, h3_1, h3_2, h3_13, h3_14, hops]
          refine hK17 _ _ ?_
          try clear hK17 K17
          refine SX.cond_k fun X18 Y18 hX18 hY18 => ?_
          simp (maxSteps:=1000000)(dsimp:=false)(disch:=omega) only [go_sem, Φa, hP, h3_15, h3_1, h3_2, h3_13, h3_14, condVC]
          refine ⟨fun hc22 => hX18 ?_, fun hc22 => hY18 ?_⟩
          · clear hX18 hY18 X18 Y18
            refine SX.region_d [some 23, some 24, some 25, some 26, some 27, none] rfl (fun ops hops => ?_)
            unfold Dsts at hops
            simp (maxSteps:=1000000)(dsimp:=false)(disch:=omega) only [go_sem, Φa, hP, h3_15, h3_1, h3_2, h3_13, h3_14, hops]
            refine ⟨_, Cell.at 5 rfl (show ((tickK g 1).cells _ _ _)[20]? = some (.int .u8 g.sd) from rfl), ?_⟩
            try with_reducible refine stI ?_
            try simp (maxSteps:=1000000)(dsimp:=false)(disch:=omega) only [go_sem, Φa, hP, h3_15, h3_1, h3_2, h3_13, h3_14, hops]
            refine ⟨5, _, _, _, rfl, (by simp [GM.cells]), .inr (by decide), ?_⟩
            try with_reducible refine stI ?_
            try simp (maxSteps:=1000000)(dsimp:=false)(disch:=omega) only [go_sem, Φa, hP, h3_15, h3_1, h3_2, h3_13, h3_14, hops]
            refine hK13 _ _ ?_
            try clear hK13 K13
            refine SX.live [1, 2, 13, 14, 15] (fun T5 hT5 => ?_)
            simp only [forall_mem_cons', forall_mem_nil', go_sem, Φa, hP, h3_15, h3_1, h3_2, h3_13, h3_14] at hT5
            obtain ⟨h5_1, h5_2, h5_13, h5_14, h5_15⟩ := hT5
            clear h3_15 h3_1 h3_2 h3_13 h3_14 T3
            refine SX.region_d [some 28, some 15] rfl (fun ops hops => ?_)
            unfold Dsts at hops
            simp (maxSteps:=1000000)(dsimp:=false)(disch:=omega) only [go_sem, Φa, hP, h5_1, h5_2, h5_13, h5_14, h5_15, hops]
            repeat' ((first | refine And.intro (by omega) ?_ | fail); try (with_reducible refine stI ?_); try simp (maxSteps:=1000000)(dsimp:=false)(disch:=omega) only [go_sem, Φa, hP, h5_1, h5_2, h5_13, h5_14, h5_15, hops])
            refine hK9 2 _ (some (bs, .cells #[.pointer (some ⟨b0, 19, none⟩), .pointer (some ⟨b0, 20, none⟩)] 74 (0, 0)) :: t1 :: t2 :: t3 :: some (b1, .cells #[.int .u8 0, .int .u8 0, .int .u8 0, .int .u8 0, .int .u8 0, .int .u8 0, .int .u8 0, .int .u8 0, .int .u8 0, .int .u8 0, .int .u8 0, .int .u8 0, .int .u8 0, .int .u8 0, .int .u8 0, .int .u8 0, .int .u16 0, .int .u16 0, .slice none 0 0, .int .u8 0, .int .u8 0, .slice none 0 0, .slice none 0 0] 29 (0, 0)) :: some (b0, .cells ((tickK g 2).cells (.slice Y1 g.st.length y1) (.slice Y2 g.pg.length y2) (.slice Y3 g.mm.length y3)).toArray 29 (0, 0)) :: L) _ (by rw [tick_c (by omega)]; exact Less.refl _) ?_ ?_
            · try dsimp only
              refine ⟨?_, ?_, ?_, ?_, ?_, ?_, ?_⟩
              · simp (maxSteps:=1000000)(dsimp:=false)(disch:=omega) only [go_sem, Φa, hP, h5_1, h5_2, h5_13, h5_14, h5_15]
                first | done | rfl | skip
              · simp (maxSteps:=1000000)(dsimp:=false)(disch:=omega) only [go_sem, Φa, hP, h5_1, h5_2, h5_13, h5_14, h5_15]
              · simp (maxSteps:=1000000)(dsimp:=false)(disch:=omega) only [go_sem, Φa, hP, h5_1, h5_2, h5_13, h5_14, h5_15]
              · simp (maxSteps:=1000000)(dsimp:=false)(disch:=omega) only [go_sem, Φa, hP, h5_1, h5_2, h5_13, h5_14, h5_15]
              · simp (maxSteps:=1000000)(dsimp:=false)(disch:=omega) only [go_sem, Φa, hP, h5_1, h5_2, h5_13, h5_14, h5_15]
              · rfl
              · omega
            · (try dsimp only); omega
          · clear hX18 hY18 X18 Y18
            refine SX.skip ?_
            try simp only [andThen_normal, andThen_ret, andThen_exit, inBlk_normal, inBlk_ret, inBlk_exit, Nat.reduceEqDiff, if_true, if_false, ↓reduceIte]
            refine hK13 _ _ ?_
            try clear hK13 K13
            refine SX.region_d [some 28, some 15] rfl (fun ops hops => ?_)
            unfold Dsts at hops
            simp (maxSteps:=1000000)(dsimp:=false)(disch:=omega) only [go_sem, Φa, hP, h3_15, h3_1, h3_2, h3_13, h3_14, hops]
            repeat' ((first | refine And.intro (by omega) ?_ | fail); try (with_reducible refine stI ?_); try simp (maxSteps:=1000000)(dsimp:=false)(disch:=omega) only [go_sem, Φa, hP, h3_15, h3_1, h3_2, h3_13, h3_14, hops])
            refine hK9 2 _ (some (bs, .cells #[.pointer (some ⟨b0, 19, none⟩), .pointer (some ⟨b0, 20, none⟩)] 74 (0, 0)) :: t1 :: t2 :: t3 :: some (b1, .cells #[.int .u8 0, .int .u8 0, .int .u8 0, .int .u8 0, .int .u8 0, .int .u8 0, .int .u8 0, .int .u8 0, .int .u8 0, .int .u8 0, .int .u8 0, .int .u8 0, .int .u8 0, .int .u8 0, .int .u8 0, .int .u8 0, .int .u16 0, .int .u16 0, .slice none 0 0, .int .u8 0, .int .u8 0, .slice none 0 0, .slice none 0 0] 29 (0, 0)) :: some (b0, .cells ((tickK g 2).cells (.slice Y1 g.st.length y1) (.slice Y2 g.pg.length y2) (.slice Y3 g.mm.length y3)).toArray 29 (0, 0)) :: L) _ (by rw [tick_d (by omega)]; exact Less.refl _) ?_ ?_
            · try dsimp only
              refine ⟨?_, ?_, ?_, ?_, ?_, ?_, ?_⟩
              · simp (maxSteps:=1000000)(dsimp:=false)(disch:=omega) only [go_sem, Φa, hP, h3_15, h3_1, h3_2, h3_13, h3_14]
                first | done | rfl | skip
              · simp (maxSteps:=1000000)(dsimp:=false)(disch:=omega) only [go_sem, Φa, hP, h3_15, h3_1, h3_2, h3_13, h3_14]
              · simp (maxSteps:=1000000)(dsimp:=false)(disch:=omega) only [go_sem, Φa, hP, h3_15, h3_1, h3_2, h3_13, h3_14]
              · simp (maxSteps:=1000000)(dsimp:=false)(disch:=omega) only [go_sem, Φa, hP, h3_15, h3_1, h3_2, h3_13, h3_14]
              · simp (maxSteps:=1000000)(dsimp:=false)(disch:=omega) only [go_sem, Φa, hP, h3_15, h3_1, h3_2, h3_13, h3_14]
              · rfl
              · omega
            · (try dsimp only); omega
      · clear hX12 hY12 X12 Y12
        refine SX.exit ?_
        try simp only [andThen_normal, andThen_ret, andThen_exit, inBlk_normal, inBlk_ret, inBlk_exit, Nat.reduceEqDiff, if_true, if_false, ↓reduceIte]
        refine hK7 _ _ ?_
        try clear hK7 K7
        refine SX.seq_k fun K19 hK19 => ?_
        refine SX.region_d [some 29, none] rfl (fun ops hops => ?_)
        unfold Dsts at hops
        simp (maxSteps:=1000000)(dsimp:=false)(disch:=omega) only [go_sem, Φa, hP, h3_15, h3_1, h3_2, h3_13, h3_14, hops]
        refine ⟨_, Cell.at 5 rfl rfl, ?_⟩
        try with_reducible refine stI ?_
        try simp (maxSteps:=1000000)(dsimp:=false)(disch:=omega) only [go_sem, Φa, hP, h3_15, h3_1, h3_2, h3_13, h3_14, hops]
        refine ⟨_, Cell.at 5 rfl rfl, ?_⟩
        try with_reducible refine stI ?_
        try simp (maxSteps:=1000000)(dsimp:=false)(disch:=omega) only [go_sem, Φa, hP, h3_15, h3_1, h3_2, h3_13, h3_14, hops]
        refine ⟨_, Cell.at 5 rfl rfl, ?_⟩
        try with_reducible refine stI ?_
        try simp (maxSteps:=1000000)(dsimp:=false)(disch:=omega) only [go_sem, Φa, hP, h3_15, h3_1, h3_2, h3_13, h3_14, hops]
        refine ⟨_, Cell.at 5 rfl rfl, ?_⟩
        try with_reducible refine stI ?_
        try simp (maxSteps:=1000000)(dsimp:=false)(disch:=omega) only [go_sem, Φa, hP, h3_15, h3_1, h3_2, h3_13, h3_14, hops]
        refine ⟨_, Cell.at 5 rfl rfl, ?_⟩
        try with_reducible refine stI ?_
        try simp (maxSteps:=1000000)(dsimp:=false)(disch:=omega) only [go_sem, Φa, hP, h3_15, h3_1, h3_2, h3_13, h3_14, hops]
        refine ⟨_, Cell.at 5 rfl rfl, ?_⟩
        try with_reducible refine stI ?_
        try simp (maxSteps:=1000000)(dsimp:=false)(disch:=omega) only [go_sem, Φa, hP, h3_15, h3_1, h3_2, h3_13, h3_14, hops]
        refine ⟨_, Cell.at 5 rfl rfl, ?_⟩
        try with_reducible refine stI ?_
        try simp (maxSteps:=1000000)(dsimp:=false)(disch:=omega) only [go_sem, Φa, hP, h3_15, h3_1, h3_2, h3_13, h3_14, hops]
        refine ⟨_, Cell.at 5 rfl rfl, ?_⟩
        try with_reducible refine stI ?_
        try simp (maxSteps:=1000000)(dsimp:=false)(disch:=omega) only [go_sem, Φa, hP, h3_15, h3_1, h3_2, h3_13, h3_14, hops]
        refine ⟨_, Cell.at 5 rfl rfl, ?_⟩
        try with_reducible refine stI ?_
        try simp (maxSteps:=1000000)(dsimp:=false)(disch:=omega) only [go_sem, Φa, hP, h3_15, h3_1, h3_2, h3_13, h3_14, hops]
        refine ⟨_, Cell.at 5 rfl rfl, ?_⟩
        try with_reducible refine stI ?_
        try simp (maxSteps:=1000000)(dsimp:=false)(disch:=omega) only [go_sem, Φa, hP, h3_15, h3_1, h3_2, h3_13, h3_14, hops]
        refine ⟨_, Cell.at 5 rfl rfl, ?_⟩
        try with_reducible refine stI ?_
        try simp (maxSteps:=1000000)(dsimp:=false)(disch:=omega) only [go_sem, Φa, hP, h3_15, h3_1, h3_2, h3_13, h3_14, hops]
        refine ⟨_, Cell.at 5 rfl rfl, ?_⟩
        try with_reducible refine stI ?_
        try simp (maxSteps:=1000000)(dsimp:=false)(disch:=omega) only [go_sem, Φa, hP, h3_15, h3_1, h3_2, h3_13, h3_14, hops]
        refine ⟨_, Cell.at 5 rfl rfl, ?_⟩
        try with_reducible refine stI ?_
        try simp (maxSteps:=1000000)(dsimp:=false)(disch:=omega) only [go_sem, Φa, hP, h3_15, h3_1, h3_2, h3_13, h3_14, hops]
        refine ⟨_, Cell.at 5 rfl rfl, ?_⟩
        try with_reducible refine stI ?_
        try simp (maxSteps:=1000000)(dsimp:=false)(disch:=omega) only [go_sem, Φa, hP, h3_15, h3_1, h3_2, h3_13, h3_14, hops]
        refine ⟨_, Cell.at 5 rfl rfl, ?_⟩
        try with_reducible refine stI ?_
        try simp (maxSteps:=1000000)(dsimp:=false)(disch:=omega) only [go_sem, Φa, hP, h3_15, h3_1, h3_2, h3_13, h3_14, hops]
        refine ⟨_, Cell.at 5 rfl rfl, ?_⟩
        try with_reducible refine stI ?_
        try simp (maxSteps:=1000000)(dsimp:=false)(disch:=omega) only [go_sem, Φa, hP, h3_15, h3_1, h3_2, h3_13, h3_14, hops]
        refine ⟨_, Cell.at 5 rfl rfl, ?_⟩
        try with_reducible refine stI ?_
        try simp (maxSteps:=1000000)(dsimp:=false)(disch:=omega) only [go_sem, Φa, hP, h3_15, h3_1, h3_2, h3_13, h3_14, hops]
        refine ⟨_, Cell.at 5 rfl rfl, ?_⟩
        try with_reducible refine stI ?_
        try simp (maxSteps:=1000000)(dsimp:=false)(disch:=omega) only [go_sem, Φa, hP, h3_15, h3_1, h3_2, h3_13, h3_14, hops]
        refine ⟨_, Cell.at 5 rfl rfl, ?_⟩
        try with_reducible refine stI ?_
        try simp (maxSteps:=1000000)(dsimp:=false)(disch:=omega) only [go_sem, Φa, hP, h3_15, h3_1, h3_2, h3_13, h3_14, hops]
        refine ⟨_, Cell.at 5 rfl rfl, ?_⟩
        try with_reducible refine stI ?_
        try simp (maxSteps:=1000000)(dsimp:=false)(disch:=omega) only [go_sem, Φa, hP, h3_15, h3_1, h3_2, h3_13, h3_14, hops]
        refine ⟨_, Cell.at 5 rfl rfl, ?_⟩
        try with_reducible refine stI ?_
        try simp (maxSteps:=1000000)(dsimp:=false)(disch:=omega) only [go_sem, Φa, hP, h3_15, h3_1, h3_2, h3_13, h3_14, hops]
        refine ⟨_, Cell.at 5 rfl rfl, ?_⟩
        try with_reducible refine stI ?_
        try simp (maxSteps:=1000000)(dsimp:=false)(disch:=omega) only [go_sem, Φa, hP, h3_15, h3_1, h3_2, h3_13, h3_14, hops]
        refine ⟨_, Cell.at 5 rfl rfl, ?_⟩
        try with_reducible refine stI ?_
        try simp (maxSteps:=1000000)(dsimp:=false)(disch:=omega) only [go_sem, Φa, hP, h3_15, h3_1, h3_2, h3_13, h3_14, hops]
        refine ⟨4, _, _, _, rfl, (by simp [GM.cells]), .inr (by decide), ?_⟩
        try with_reducible refine stI ?_
        try simp (maxSteps:=1000000)(dsimp:=false)(disch:=omega) only [go_sem, Φa, hP, h3_15, h3_1, h3_2, h3_13, h3_14, hops]
        refine hK19 _ _ ?_
        try clear hK19 K19
        refine SX.ret ?_
        simp only [andThen_normal, andThen_ret, andThen_exit, inBlk_normal, inBlk_ret, inBlk_exit, Nat.reduceEqDiff, if_true, if_false, ↓reduceIte, retQ_ret]
        try simp only [res0,res1,res2,res3,stK_e,resX,resK,oneOr,ld_ptr,loadVC,loadN,List.nil_append,List.cons_append,Nat.reduceAdd,Nat.add_zero,Nat.zero_add,Addr.add_lit,Addr.add_zero',add_addS,T.elA_29,T.lay_29,T.szA_29,T.zr_29,Try.underlying29,go_sem,Φa,hP,h3_15,h3_1,h3_2,h3_13,h3_14]
        obtain rfl : k = 2 := by omega
        refine ⟨_, _, Less.sublist (.cons _ (.cons_cons _ (.cons_cons _ (.cons_cons _ (.cons _ (.cons _ (List.Sublist.refl _))))))), ⟨_, Cell.at 4 rfl rfl, _, Cell.at 4 rfl rfl, _, Cell.at 4 rfl rfl, _, Cell.at 4 rfl rfl, _, Cell.at 4 rfl rfl, _, Cell.at 4 rfl rfl, _, Cell.at 4 rfl rfl, _, Cell.at 4 rfl rfl, _, Cell.at 4 rfl rfl, _, Cell.at 4 rfl rfl, _, Cell.at 4 rfl rfl, _, Cell.at 4 rfl rfl, _, Cell.at 4 rfl rfl, _, Cell.at 4 rfl rfl, _, Cell.at 4 rfl rfl, _, Cell.at 4 rfl rfl, _, Cell.at 4 rfl rfl, _, Cell.at 4 rfl rfl, _, Cell.at 4 rfl rfl, _, Cell.at 4 rfl rfl, _, Cell.at 4 rfl rfl, _, Cell.at 4 rfl rfl, _, Cell.at 4 rfl rfl, rfl⟩, ?_⟩
        unfold tickG
        rw [if_neg (by simpa using hc7)]
        exact ⟨_, _, _, t1, t2, t3, rfl, rfl, ⟨hrc.st, hrc.pg, hrc.mm⟩⟩

end Go.Proofs.Ytgioegdjeodpiaa
set_option linter.unusedVariables false
set_option linter.unusedSimpArgs false
namespace Go.Proofs.Ytgioegdjeodpiaa
open Go.RowKit Go.SX
open Go.SX renaming ia_someH → Φa
set_option maxHeartbeats 1000000 in
set_option maxRecDepth 100000 in
theorem refCheck_spec {Γ : Ctx} (hP : Γ.P = Try.prog) {L : Hp} {g : GM} {sv pv mv : Value} (hs : SlI .u16 (Cell Γ L) sv g.st) (hp : SlI .u8 (Cell Γ L) pv g.pg) (hm : SlI .u8 (Cell Γ L) mv g.mm) (hsl : g.st.length ≤ 2147483647) (hpl : g.pg.length ≤ 2147483647) (hml : g.mm.length ≤ 2147483647) :
    SCall Γ 23 #[(.agg (g.cells sv pv mv).toArray)] L (fun v L' => v = .int .i64 (checkE g) ∧ L' = L) := by
  obtain ⟨As, cs, rfl, hcs⟩ := slShape hs
  obtain ⟨Ap, cp, rfl, hcp⟩ := slShape hp
  obtain ⟨Am, cm, rfl, hcm⟩ := slShape hm
  refine SCall.enter (n := 19) (res1 2) (hP ▸ Try.func23) rfl rfl (by simp) (res1_ok rfl) ?_
  refine SX.seq_k fun K1 hK1 => ?_
  refine SX.region_d [some 1, some 2] rfl (fun ops hops => ?_)
  unfold Dsts at hops
  simp (maxSteps:=1000000)(dsimp:=false)(disch:=omega) only [go_sem, Φa, hP, hops]
  intro b0
  try with_reducible refine stI ?_
  try simp (maxSteps:=1000000)(dsimp:=false)(disch:=omega) only [go_sem, Φa, hP, hops]
  refine hK1 _ _ ?_
  try clear hK1 K1
  refine SX.seq_k fun K2 hK2 => ?_
  refine SX.seq_k fun K3 hK3 => ?_
  refine SX.region_xd [some 3, some 4, some 5, some 6, some 7, some 8, some 9, some 10, some 11, some 12, some 13, some 14, some 15, some 16, some 17, some 18] rfl (fun ops hops => ?_)
  unfold Dsts at hops
  refine RX.live [1] (fun T1 hT1 => ?_)
  simp only [forall_mem_cons', forall_mem_nil', go_sem, Φa, hP] at hT1
  have h1_1 := hT1; clear hT1
  refine RX.join 10 (fun (ss : Unit) T L' => T 12 = .bool ((!decide ((g.pg.length : Int) = 256)) || !decide ((g.mm.length : Int) = 3232)) ∧ T 1 = T1 1 ∧ L' = some (b0, .cells (g.cells (.slice As g.st.length cs) (.slice Ap g.pg.length cp) (.slice Am g.mm.length cm)).toArray 29 (0, 0)) :: L ∧ (True)) (fun K4 hK4 => ?_) ?_
  · simp only [h1_1] at hK4
    simp (maxSteps:=1000000)(dsimp:=false)(disch:=omega) only [go_sem, Φa, hP, h1_1, hops]
    repeat' (first | refine iteB (fun hg => ?_) (fun hg => ?_) | refine iteI (fun hg => ?_) (fun hg => ?_) | ((first | refine ⟨_, Cell.at 0 rfl (show (g.cells _ _ _)[21]? = _ from rfl), ?_⟩ | refine ⟨_, Cell.at 0 rfl (show (g.cells _ _ _)[22]? = _ from rfl), ?_⟩ | refine ⟨_, Cell.at 0 rfl (show (g.cells _ _ _)[18]? = _ from rfl), ?_⟩ | refine And.intro (by omega) ?_ | refine ⟨_, Cell.at 0 rfl rfl, ?_⟩ | fail); try (with_reducible refine stI ?_); try simp (maxSteps:=1000000)(dsimp:=false)(disch:=omega) only [go_sem, Φa, hP, h1_1, hops]) | fail)
    all_goals
      refine hK4 () _ (some (b0, .cells (g.cells (.slice As g.st.length cs) (.slice Ap g.pg.length cp) (.slice Am g.mm.length cm)).toArray 29 (0, 0)) :: L) _ (by first | exact Less.refl _ | exact Less.drop _ _ | exact Less.drops (Less.drop _ _) | exact Less.drops (Less.drops (Less.drop _ _)) | exact Less.drops (Less.drops (Less.drops (Less.drop _ _))) | exact Less.drops (Less.drops (Less.drops (Less.drops (Less.drop _ _))))) ?_
      try dsimp only
      refine ⟨?_, ?_, ?_, ?_⟩
      · simp (maxSteps:=1000000)(dsimp:=false)(disch:=omega) only [go_sem, Φa, hP, h1_1]
        first | done | (refine congrArg Value.bool ?_; simp_all; done) | (refine congrArg Value.bool ?_; simp_all; omega)
      · simp (maxSteps:=1000000)(dsimp:=false)(disch:=omega) only [go_sem, Φa, hP, h1_1]
      · rfl
      · trivial
  · intro ss T2 L2 hI
    simp only [h1_1] at hI 
    obtain ⟨h2_12, h2_1, hL2, hinv⟩ := hI
    replace hL2 := hL2.symm
    subst hL2
    clear h1_1 T1
    refine RX.live [1, 12] (fun T3 hT3 => ?_)
    simp only [forall_mem_cons', forall_mem_nil', go_sem, Φa, hP, h2_12, h2_1] at hT3
    obtain ⟨h3_1, h3_12⟩ := hT3
    clear h2_12 h2_1 T2
    refine RX.join 6 (fun (ss : Unit) T L' => T 18 = .bool ((!decide ((g.pg.length : Int) = 256)) || (!decide ((g.mm.length : Int) = 3232)) || decide (12 < (g.st.length : Int))) ∧ L' = some (b0, .cells (g.cells (.slice As g.st.length cs) (.slice Ap g.pg.length cp) (.slice Am g.mm.length cm)).toArray 29 (0, 0)) :: L ∧ (True)) (fun K5 hK5 => ?_) ?_
    · simp (maxSteps:=1000000)(dsimp:=false)(disch:=omega) only [go_sem, Φa, hP, h3_1, h3_12, hops]
      repeat' (first | refine iteB (fun hg => ?_) (fun hg => ?_) | refine iteI (fun hg => ?_) (fun hg => ?_) | ((first | refine ⟨_, Cell.at 0 rfl (show (g.cells _ _ _)[21]? = _ from rfl), ?_⟩ | refine ⟨_, Cell.at 0 rfl (show (g.cells _ _ _)[22]? = _ from rfl), ?_⟩ | refine ⟨_, Cell.at 0 rfl (show (g.cells _ _ _)[18]? = _ from rfl), ?_⟩ | refine And.intro (by omega) ?_ | refine ⟨_, Cell.at 0 rfl rfl, ?_⟩ | fail); try (with_reducible refine stI ?_); try simp (maxSteps:=1000000)(dsimp:=false)(disch:=omega) only [go_sem, Φa, hP, h3_1, h3_12, hops]) | fail)
      all_goals
        refine hK5 () _ (some (b0, .cells (g.cells (.slice As g.st.length cs) (.slice Ap g.pg.length cp) (.slice Am g.mm.length cm)).toArray 29 (0, 0)) :: L) _ (by first | exact Less.refl _ | exact Less.drop _ _ | exact Less.drops (Less.drop _ _) | exact Less.drops (Less.drops (Less.drop _ _)) | exact Less.drops (Less.drops (Less.drops (Less.drop _ _))) | exact Less.drops (Less.drops (Less.drops (Less.drops (Less.drop _ _))))) ?_
        try dsimp only
        refine ⟨?_, ?_, ?_⟩
        · simp (maxSteps:=1000000)(dsimp:=false)(disch:=omega) only [go_sem, Φa, hP, h3_1, h3_12]
          first | done | (refine congrArg Value.bool ?_; simp_all; done) | (refine congrArg Value.bool ?_; simp_all; omega)
        · rfl
        · trivial
    · intro ss T4 L4 hI
      obtain ⟨h4_18, hL4, hinv⟩ := hI
      replace hL4 := hL4.symm
      subst hL4
      clear h3_1 h3_12 T3
      refine RX.done ?_
      simp (maxSteps:=1000000)(dsimp:=false)(disch:=omega) only [go_sem, Φa, hP, h4_18, hops]
      refine hK3 _ _ ?_
      try clear hK3 K3
      refine SX.cond_k fun X6 Y6 hX6 hY6 => ?_
      simp (maxSteps:=1000000)(dsimp:=false)(disch:=omega) only [go_sem, Φa, hP, h4_18, condVC]
      refine ⟨fun hc18 => hX6 ?_, fun hc18 => hY6 ?_⟩
      · clear hX6 hY6 X6 Y6
        refine SX.seq_k fun K7 hK7 => ?_
        refine SX.region_d [some 2] rfl (fun ops hops => ?_)
        unfold Dsts at hops
        simp (maxSteps:=1000000)(dsimp:=false)(disch:=omega) only [go_sem, Φa, hP, h4_18, hops]
        refine hK7 _ _ ?_
        try clear hK7 K7
        refine SX.ret ?_
        simp only [andThen_normal, andThen_ret, andThen_exit, inBlk_normal, inBlk_ret, inBlk_exit, Nat.reduceEqDiff, if_true, if_false, ↓reduceIte, retQ_ret]
        try simp only [res0, res1, res2, res3, stK_e, go_sem, Φa, hP, h4_18]
        refine ⟨_, _, Less.drop _ _, rfl, ?_⟩
        unfold checkE
        rw [if_neg (fun h => by obtain ⟨h1, h2, h3⟩ := h; simp [h1, h2] at hc18; omega)]
        exact ⟨rfl, rfl⟩
      · clear hX6 hY6 X6 Y6
        refine SX.skip ?_
        try simp only [andThen_normal, andThen_ret, andThen_exit, inBlk_normal, inBlk_ret, inBlk_exit, Nat.reduceEqDiff, if_true, if_false, ↓reduceIte]
        refine hK2 _ _ ?_
        try clear hK2 K2
        refine SX.seq_k fun K8 hK8 => ?_
        refine SX.region_d [some 2] rfl (fun ops hops => ?_)
        unfold Dsts at hops
        simp (maxSteps:=1000000)(dsimp:=false)(disch:=omega) only [go_sem, Φa, hP, h4_18, hops]
        refine hK8 _ _ ?_
        try clear hK8 K8
        refine SX.ret ?_
        simp only [andThen_normal, andThen_ret, andThen_exit, inBlk_normal, inBlk_ret, inBlk_exit, Nat.reduceEqDiff, if_true, if_false, ↓reduceIte, retQ_ret]
        try simp only [res0, res1, res2, res3, stK_e, go_sem, Φa, hP, h4_18]
        refine ⟨_, _, Less.drop _ _, rfl, ?_⟩
        unfold checkE
        rw [if_pos (by simp at hc18; omega)]
        exact ⟨rfl, rfl⟩
set_option maxHeartbeats 1000000 in
set_option maxRecDepth 100000 in
theorem Bytes_spec {Γ : Ctx} (hP : Γ.P = Try.prog) {L : Hp} {v : Value} {l : List Int} (hx : SlI .u8 (Cell Γ L) v l) (hl : l.length ≤ 1000000) :
    SCall Γ 40 #[v] L (cloneR .u8 5 L l) := by
  obtain ⟨A, c, rfl, hc, hA⟩ := id hx
  refine SCall.enter (n := 11) (res1 2) (hP ▸ Try.func40) rfl rfl (by simp) (res1_ok rfl) ?_
  refine SX.seq_k fun K1 hK1 => ?_
  refine SX.region_d [some 2] rfl (fun ops hops => ?_)
  unfold Dsts at hops
  simp (maxSteps:=1000000)(dsimp:=false)(disch:=omega) only [go_sem, Φa, hP, hops]
  refine hK1 _ _ ?_
  try clear hK1 K1
  refine SX.seq_k fun K2 hK2 => ?_
  refine SX.region_d [some 4, some 5, some 6, some 3] rfl (fun ops hops => ?_)
  unfold Dsts at hops
  simp (maxSteps:=1000000)(dsimp:=false)(disch:=omega) only [go_sem, Φa, hP, hops]
  intro b0
  try with_reducible refine stI ?_
  try simp (maxSteps:=1000000)(dsimp:=false)(disch:=omega) only [go_sem, Φa, hP, hops]
  refine hK2 _ _ ?_
  try clear hK2 K2
  refine SX.seq_k fun K3 hK3 => ?_
  refine SX.region_d [some 7, some 8, some 9] rfl (fun ops hops => ?_)
  unfold Dsts at hops
  simp (maxSteps:=1000000)(dsimp:=false)(disch:=omega) only [go_sem, Φa, hP, hops]
  refine YCopy.ints (i := 0) (hP ▸ T.elS_23) (SlI.cons _ hx) rfl (by simp [zerosV]) (.inr (Nat.zero_le _)) ?_
  rw [copied (Nat.le_refl _), Nat.sub_self, List.replicate_zero, List.append_nil]
  try with_reducible refine stI ?_
  try simp (maxSteps:=1000000)(dsimp:=false)(disch:=omega) only [go_sem, Φa, hP, hops]
  refine hK3 _ _ ?_
  try clear hK3 K3
  refine SX.seq_k fun K4 hK4 => ?_
  refine SX.region_d [some 10, some 2] rfl (fun ops hops => ?_)
  unfold Dsts at hops
  simp (maxSteps:=1000000)(dsimp:=false)(disch:=omega) only [go_sem, Φa, hP, hops]
  refine hK4 _ _ ?_
  try clear hK4 K4
  refine SX.ret ?_
  simp only [andThen_normal, andThen_ret, andThen_exit, inBlk_normal, inBlk_ret, inBlk_exit, Nat.reduceEqDiff, if_true, if_false, ↓reduceIte, retQ_ret]
  try simp only [res0, res1, res2, res3, stK_e, go_sem, Φa, hP]
  exact ⟨_, _, Less.refl _, rfl, _, rfl, rowFull rfl⟩
set_option maxHeartbeats 1000000 in
set_option maxRecDepth 100000 in
theorem Copied_spec {Γ : Ctx} (hP : Γ.P = Try.prog) {L : Hp} {g : GM} {sv pv mv : Value} (hs : SlI .u16 (Cell Γ L) sv g.st) (hp : SlI .u8 (Cell Γ L) pv g.pg) (hm : SlI .u8 (Cell Γ L) mv g.mm) (hsl : g.st.length ≤ 1000000) (hpl : g.pg.length ≤ 1000000) (hml : g.mm.length ≤ 1000000) :
    SCall Γ 27 #[(.agg (g.cells sv pv mv).toArray)] L (cloneG g L) := by
  obtain ⟨As, cs, rfl, hcs⟩ := slShape hs
  obtain ⟨Ap, cp, rfl, hcp⟩ := slShape hp
  obtain ⟨Am, cm, rfl, hcm⟩ := slShape hm
  refine SCall.enter (n := 23) (resX Γ [.cell 2 29]) (hP ▸ Try.func27) rfl rfl (by simp) (resX_ok rfl) ?_
  refine SX.seq_k fun K1 hK1 => ?_
  refine SX.region_d [some 1, some 2] rfl (fun ops hops => ?_)
  unfold Dsts at hops
  simp (maxSteps:=1000000)(dsimp:=false)(disch:=omega) only [go_sem, Φa, hP, hops]
  intro b0
  try with_reducible refine stI ?_
  try simp (maxSteps:=1000000)(dsimp:=false)(disch:=omega) only [go_sem, Φa, hP, hops]
  intro b1
  try with_reducible refine stI ?_
  try simp (maxSteps:=1000000)(dsimp:=false)(disch:=omega) only [go_sem, Φa, hP, hops]
  refine hK1 _ _ ?_
  try clear hK1 K1
  refine SX.seq_k fun K2 hK2 => ?_
  refine SX.region_d [some 4, some 5, some 6, some 7, some 3] rfl (fun ops hops => ?_)
  unfold Dsts at hops
  simp (maxSteps:=1000000)(dsimp:=false)(disch:=omega) only [go_sem, Φa, hP, hops]
  refine ⟨_, Cell.at 1 rfl (show (g.cells _ _ _)[18]? = _ from rfl), ?_⟩
  try with_reducible refine stI ?_
  try simp (maxSteps:=1000000)(dsimp:=false)(disch:=omega) only [go_sem, Φa, hP, hops]
  intro b2
  try with_reducible refine stI ?_
  try simp (maxSteps:=1000000)(dsimp:=false)(disch:=omega) only [go_sem, Φa, hP, hops]
  refine hK2 _ _ ?_
  try clear hK2 K2
  refine SX.seq_k fun K3 hK3 => ?_
  refine SX.region_d [some 8, some 9, some 10, some 11] rfl (fun ops hops => ?_)
  unfold Dsts at hops
  simp (maxSteps:=1000000)(dsimp:=false)(disch:=omega) only [go_sem, Φa, hP, hops]
  refine ⟨_, Cell.at 2 rfl (show (g.cells _ _ _)[18]? = _ from rfl), ?_⟩
  try with_reducible refine stI ?_
  try simp (maxSteps:=1000000)(dsimp:=false)(disch:=omega) only [go_sem, Φa, hP, hops]
  refine YCopy.ints (i := 0) (hP ▸ T.elS_27) (SlI.cons _ (SlI.cons _ (SlI.cons _ hs))) rfl (by simp [zerosV]) (.inr (Nat.zero_le _)) ?_
  rw [copied (Nat.le_refl _), Nat.sub_self, List.replicate_zero, List.append_nil]
  try with_reducible refine stI ?_
  try simp (maxSteps:=1000000)(dsimp:=false)(disch:=omega) only [go_sem, Φa, hP, hops]
  refine hK3 _ _ ?_
  try clear hK3 K3
  refine SX.live [1, 2, 3] (fun T1 hT1 => ?_)
  simp only [forall_mem_cons', forall_mem_nil', go_sem, Φa, hP] at hT1
  obtain ⟨h1_1, h1_2, h1_3⟩ := hT1
  refine SX.seq_k fun K4 hK4 => ?_
  refine SX.region_d [some 12, some 13, none] rfl (fun ops hops => ?_)
  unfold Dsts at hops
  simp (maxSteps:=1000000)(dsimp:=false)(disch:=omega) only [go_sem, Φa, hP, h1_1, h1_2, h1_3, hops]
  refine ⟨2, _, _, _, rfl, (by simp [GM.cells]), .inr (by decide), ?_⟩
  try with_reducible refine stI ?_
  try simp (maxSteps:=1000000)(dsimp:=false)(disch:=omega) only [go_sem, Φa, hP, h1_1, h1_2, h1_3, hops]
  refine hK4 _ _ ?_
  try clear hK4 K4
  refine SX.seq_k fun K5 hK5 => ?_
  refine SX.region_d [some 14, some 15, some 16, some 17, none] rfl (fun ops hops => ?_)
  unfold Dsts at hops
  simp (maxSteps:=1000000)(dsimp:=false)(disch:=omega) only [go_sem, Φa, hP, h1_1, h1_2, h1_3, hops]
  refine ⟨_, Cell.at 2 rfl rfl, ?_⟩
  try with_reducible refine stI ?_
  try simp (maxSteps:=1000000)(dsimp:=false)(disch:=omega) only [go_sem, Φa, hP, h1_1, h1_2, h1_3, hops]
  refine SCall.mono (Bytes_spec hP (SlI.cons _ (SlI.cons _ (SlI.cons _ hp))) hpl) ?_
  rintro v_ L_ ⟨s1, rfl, hr1⟩
  obtain ⟨A1, c1, rfl, hc1⟩ := rowShape hr1
  try with_reducible refine stI ?_
  try simp (maxSteps:=1000000)(dsimp:=false)(disch:=omega) only [go_sem, Φa, hP, h1_1, h1_2, h1_3, hops]
  refine ⟨3, _, _, _, rfl, (by simp [GM.cells]), .inr (by decide), ?_⟩
  try with_reducible refine stI ?_
  try simp (maxSteps:=1000000)(dsimp:=false)(disch:=omega) only [go_sem, Φa, hP, h1_1, h1_2, h1_3, hops]
  refine hK5 _ _ ?_
  try clear hK5 K5
  refine SX.seq_k fun K6 hK6 => ?_
  refine SX.region_d [some 18, some 19, some 20, some 21, none] rfl (fun ops hops => ?_)
  unfold Dsts at hops
  simp (maxSteps:=1000000)(dsimp:=false)(disch:=omega) only [go_sem, Φa, hP, h1_1, h1_2, h1_3, hops]
  refine ⟨_, Cell.at 3 rfl rfl, ?_⟩
  try with_reducible refine stI ?_
  try simp (maxSteps:=1000000)(dsimp:=false)(disch:=omega) only [go_sem, Φa, hP, h1_1, h1_2, h1_3, hops]
  refine SCall.mono (Bytes_spec hP (SlI.cons _ (SlI.cons _ (SlI.cons _ (SlI.cons _ hm)))) hml) ?_
  rintro v_ L_ ⟨s2, rfl, hr2⟩
  obtain ⟨A2, c2, rfl, hc2⟩ := rowShape hr2
  try with_reducible refine stI ?_
  try simp (maxSteps:=1000000)(dsimp:=false)(disch:=omega) only [go_sem, Φa, hP, h1_1, h1_2, h1_3, hops]
  refine ⟨4, _, _, _, rfl, (by simp [GM.cells]), .inr (by decide), ?_⟩
  try with_reducible refine stI ?_
  try simp (maxSteps:=1000000)(dsimp:=false)(disch:=omega) only [go_sem, Φa, hP, h1_1, h1_2, h1_3, hops]
  refine hK6 _ _ ?_
  try clear hK6 K6
  refine SX.live [1, 2] (fun T2 hT2 => ?_)
  simp only [forall_mem_cons', forall_mem_nil', go_sem, Φa, hP, h1_1, h1_2, h1_3] at hT2
  obtain ⟨h2_1, h2_2⟩ := hT2
  clear h1_1 h1_2 h1_3 T1
  refine SX.seq_k fun K7 hK7 => ?_
  refine SX.region_d [some 22, none] rfl (fun ops hops => ?_)
  unfold Dsts at hops
  simp (maxSteps:=1000000)(dsimp:=false)(disch:=omega) only [go_sem, Φa, hP, h2_1, h2_2, hops]
  refine ⟨_, Cell.at 4 rfl rfl, ?_⟩
  try with_reducible refine stI ?_
  try simp (maxSteps:=1000000)(dsimp:=false)(disch:=omega) only [go_sem, Φa, hP, h2_1, h2_2, hops]
  refine ⟨_, Cell.at 4 rfl rfl, ?_⟩
  try with_reducible refine stI ?_
  try simp (maxSteps:=1000000)(dsimp:=false)(disch:=omega) only [go_sem, Φa, hP, h2_1, h2_2, hops]
  refine ⟨_, Cell.at 4 rfl rfl, ?_⟩
  try with_reducible refine stI ?_
  try simp (maxSteps:=1000000)(dsimp:=false)(disch:=omega) only [go_sem, Φa, hP, h2_1, h2_2, hops]
  refine ⟨_, Cell.at 4 rfl rfl, ?_⟩
  try with_reducible refine stI ?_
  try simp (maxSteps:=1000000)(dsimp:=false)(disch:=omega) only [go_sem, Φa, hP, h2_1, h2_2, hops]
  refine ⟨_, Cell.at 4 rfl rfl, ?_⟩
  try with_reducible refine stI ?_
  try simp (maxSteps:=1000000)(dsimp:=false)(disch:=omega) only [go_sem, Φa, hP, h2_1, h2_2, hops]
  refine ⟨_, Cell.at 4 rfl rfl, ?_⟩
  try with_reducible refine stI ?_
  try simp (maxSteps:=1000000)(dsimp:=false)(disch:=omega) only [go_sem, Φa, hP, h2_1, h2_2, hops]
  refine ⟨_, Cell.at 4 rfl rfl, ?_⟩
  try with_reducible refine stI ?_
  try simp (maxSteps:=1000000)(dsimp:=false)(disch:=omega) only [go_sem, Φa, hP, h2_1, h2_2, hops]
  refine ⟨_, Cell.at 4 rfl rfl, ?_⟩
  try with_reducible refine stI ?_
  try simp (maxSteps:=1000000)(dsimp:=false)(disch:=omega) only [go_sem, Φa, hP, h2_1, h2_2, hops]
  refine ⟨_, Cell.at 4 rfl rfl, ?_⟩
  try with_reducible refine stI ?_
  try simp (maxSteps:=1000000)(dsimp:=false)(disch:=omega) only [go_sem, Φa, hP, h2_1, h2_2, hops]
  refine ⟨_, Cell.at 4 rfl rfl, ?_⟩
  try with_reducible refine stI ?_
  try simp (maxSteps:=1000000)(dsimp:=false)(disch:=omega) only [go_sem, Φa, hP, h2_1, h2_2, hops]
  refine ⟨_, Cell.at 4 rfl rfl, ?_⟩
  try with_reducible refine stI ?_
  try simp (maxSteps:=1000000)(dsimp:=false)(disch:=omega) only [go_sem, Φa, hP, h2_1, h2_2, hops]
  refine ⟨_, Cell.at 4 rfl rfl, ?_⟩
  try with_reducible refine stI ?_
  try simp (maxSteps:=1000000)(dsimp:=false)(disch:=omega) only [go_sem, Φa, hP, h2_1, h2_2, hops]
  refine ⟨_, Cell.at 4 rfl rfl, ?_⟩
  try with_reducible refine stI ?_
  try simp (maxSteps:=1000000)(dsimp:=false)(disch:=omega) only [go_sem, Φa, hP, h2_1, h2_2, hops]
  refine ⟨_, Cell.at 4 rfl rfl, ?_⟩
  try with_reducible refine stI ?_
  try simp (maxSteps:=1000000)(dsimp:=false)(disch:=omega) only [go_sem, Φa, hP, h2_1, h2_2, hops]
  refine ⟨_, Cell.at 4 rfl rfl, ?_⟩
  try with_reducible refine stI ?_
  try simp (maxSteps:=1000000)(dsimp:=false)(disch:=omega) only [go_sem, Φa, hP, h2_1, h2_2, hops]
  refine ⟨_, Cell.at 4 rfl rfl, ?_⟩
  try with_reducible refine stI ?_
  try simp (maxSteps:=1000000)(dsimp:=false)(disch:=omega) only [go_sem, Φa, hP, h2_1, h2_2, hops]
  refine ⟨_, Cell.at 4 rfl rfl, ?_⟩
  try with_reducible refine stI ?_
  try simp (maxSteps:=1000000)(dsimp:=false)(disch:=omega) only [go_sem, Φa, hP, h2_1, h2_2, hops]
  refine ⟨_, Cell.at 4 rfl rfl, ?_⟩
  try with_reducible refine stI ?_
  try simp (maxSteps:=1000000)(dsimp:=false)(disch:=omega) only [go_sem, Φa, hP, h2_1, h2_2, hops]
  refine ⟨_, Cell.at 4 rfl rfl, ?_⟩
  try with_reducible refine stI ?_
  try simp (maxSteps:=1000000)(dsimp:=false)(disch:=omega) only [go_sem, Φa, hP, h2_1, h2_2, hops]
  refine ⟨_, Cell.at 4 rfl rfl, ?_⟩
  try with_reducible refine stI ?_
  try simp (maxSteps:=1000000)(dsimp:=false)(disch:=omega) only [go_sem, Φa, hP, h2_1, h2_2, hops]
  refine ⟨_, Cell.at 4 rfl rfl, ?_⟩
  try with_reducible refine stI ?_
  try simp (maxSteps:=1000000)(dsimp:=false)(disch:=omega) only [go_sem, Φa, hP, h2_1, h2_2, hops]
  refine ⟨_, Cell.at 4 rfl rfl, ?_⟩
  try with_reducible refine stI ?_
  try simp (maxSteps:=1000000)(dsimp:=false)(disch:=omega) only [go_sem, Φa, hP, h2_1, h2_2, hops]
  refine ⟨_, Cell.at 4 rfl rfl, ?_⟩
  try with_reducible refine stI ?_
  try simp (maxSteps:=1000000)(dsimp:=false)(disch:=omega) only [go_sem, Φa, hP, h2_1, h2_2, hops]
  refine ⟨3, _, _, _, rfl, (by simp [GM.cells]), .inr (by decide), ?_⟩
  try with_reducible refine stI ?_
  try simp (maxSteps:=1000000)(dsimp:=false)(disch:=omega) only [go_sem, Φa, hP, h2_1, h2_2, hops]
  refine hK7 _ _ ?_
  try clear hK7 K7
  refine SX.ret ?_
  simp only [andThen_normal, andThen_ret, andThen_exit, inBlk_normal, inBlk_ret, inBlk_exit, Nat.reduceEqDiff, if_true, if_false, ↓reduceIte, retQ_ret]
  try simp only [res0,res1,res2,res3,stK_e,resX,resK,oneOr,ld_ptr,loadVC,loadN,List.nil_append,List.cons_append,Nat.reduceAdd,Nat.add_zero,Nat.zero_add,Addr.add_lit,Addr.add_zero',add_addS,T.elA_29,T.lay_29,T.szA_29,T.zr_29,Try.underlying29,go_sem,Φa,hP,h2_1,h2_2]
  refine ⟨_, _, lessThree _ _ _ _ _ _, ⟨_, Cell.at 3 rfl rfl, _, Cell.at 3 rfl rfl, _, Cell.at 3 rfl rfl, _, Cell.at 3 rfl rfl, _, Cell.at 3 rfl rfl, _, Cell.at 3 rfl rfl, _, Cell.at 3 rfl rfl, _, Cell.at 3 rfl rfl, _, Cell.at 3 rfl rfl, _, Cell.at 3 rfl rfl, _, Cell.at 3 rfl rfl, _, Cell.at 3 rfl rfl, _, Cell.at 3 rfl rfl, _, Cell.at 3 rfl rfl, _, Cell.at 3 rfl rfl, _, Cell.at 3 rfl rfl, _, Cell.at 3 rfl rfl, _, Cell.at 3 rfl rfl, _, Cell.at 3 rfl rfl, _, Cell.at 3 rfl rfl, _, Cell.at 3 rfl rfl, _, Cell.at 3 rfl rfl, _, Cell.at 3 rfl rfl, rfl⟩, ?_⟩
  exact ⟨_, _, _, _, s1, s2, rfl, rfl, ⟨rowFull rfl, hr1, hr2⟩⟩

end Go.Proofs.Ytgioegdjeodpiaa
set_option linter.unusedVariables false
set_option linter.unusedSimpArgs false
namespace Go.Proofs.Ytgioegdjeodpiaa
open Go.RowKit Go.SX

end Go.Proofs.Ytgioegdjeodpiaa
set_option linter.unusedVariables false
set_option linter.unusedSimpArgs false
namespace Go.Proofs.Ytgioegdjeodpiaa
open Go.RowKit Go.SX

def pickI (c : Int) (n : Int) : Int := (if c < 0 then -(c + 1) else c).tmod n
theorem pickI_lt {c n : Int} (hn : 0 < n) : 0 ≤ pickI c n ∧ pickI c n < n := by
  have h : 0 ≤ (if c < 0 then -(c + 1) else c) := by split <;> omega
  unfold pickI
  rw [Int.tmod_eq_emod_of_nonneg h]
  exact ⟨Int.emod_nonneg _ (by omega), Int.emod_lt_of_pos _ hn⟩
def vastB (g : GM) (f : Fnt) : Bool := decide (2147483647 < g.st.length ∨ 2147483647 < g.pg.length ∨ 2147483647 < g.mm.length ∨ 2147483647 < f.bs.length ∨ 2147483647 < g.st.length + g.pg.length + g.mm.length + f.bs.length)
set_option maxHeartbeats 1000000 in
set_option maxRecDepth 100000 in
theorem pick_spec {Γ : Ctx} (hP : Γ.P = Try.prog) {L : Hp} {c n : Int} (hc : -9223372036854775808 ≤ c ∧ c ≤ 9223372036854775807) (hn : 0 < n) :
    SCall Γ 26 #[(.int .i64 c), (.int .i64 n)] L (fun v L' => v = .int .i64 (pickI c n) ∧ L' = L) := by
  refine SCall.enter (n := 13) (res1 4) (hP ▸ Try.func26) rfl rfl (by simp) (res1_ok rfl) ?_
  refine SX.seq_k fun K1 hK1 => ?_
  refine SX.region_d [some 4] rfl (fun ops hops => ?_)
  unfold Dsts at hops
  simp (maxSteps := 1000000) (dsimp := false) (disch := omega) only [go_sem, ia_someH, hP, hops]
  refine hK1 _ _ ?_
  try clear hK1 K1
  refine SX.live [0, 1] (fun T1 hT1 => ?_)
  simp only [forall_mem_cons', forall_mem_nil', go_sem, ia_someH, hP] at hT1
  obtain ⟨h1_0, h1_1⟩ := hT1
  refine SX.join (fun (ss : Unit) T L' => T 0 = .int .i64 (if c < 0 then -(c + 1) else c) ∧ T 1 = T1 1 ∧ L' = L ∧ (True)) (fun K2 hK2 => ?_) ?_
  · simp only [h1_1] at hK2
    refine SX.seq_k fun K3 hK3 => ?_
    refine SX.region_d [some 5, some 6] rfl (fun ops hops => ?_)
    unfold Dsts at hops
    simp (maxSteps := 1000000) (dsimp := false) (disch := omega) only [go_sem, ia_someH, hP, h1_0, h1_1, hops]
    repeat' ((first | refine And.intro (by omega) ?_ | fail); try (with_reducible refine stI ?_); try simp (maxSteps := 1000000) (dsimp := false) (disch := omega) only [go_sem, ia_someH, hP, h1_0, h1_1, hops])
    refine hK3 _ _ ?_
    try clear hK3 K3
    refine SX.cond_k fun X4 Y4 hX4 hY4 => ?_
    simp (maxSteps := 1000000) (dsimp := false) (disch := omega) only [go_sem, ia_someH, hP, h1_0, h1_1, condVC]
    refine ⟨fun hc6 => hX4 ?_, fun hc6 => hY4 ?_⟩
    · clear hX4 hY4 X4 Y4
      refine SX.region_d [some 7, some 8, some 9, some 0] rfl (fun ops hops => ?_)
      unfold Dsts at hops
      simp (maxSteps := 1000000) (dsimp := false) (disch := omega) only [go_sem, ia_someH, hP, h1_0, h1_1, hops]
      repeat' ((first | refine And.intro (by omega) ?_ | fail); try (with_reducible refine stI ?_); try simp (maxSteps := 1000000) (dsimp := false) (disch := omega) only [go_sem, ia_someH, hP, h1_0, h1_1, hops])
      refine hK2 () _ (L) _ (by first | exact Less.refl _ | exact Less.drop _ _ | exact Less.drops (Less.drop _ _) | exact Less.drops (Less.drops (Less.drop _ _)) | exact Less.drops (Less.drops (Less.drops (Less.drop _ _))) | exact Less.drops (Less.drops (Less.drops (Less.drops (Less.drop _ _))))) ?_
      try dsimp only
      refine ⟨?_, ?_, ?_, ?_⟩
      · simp (maxSteps := 1000000) (dsimp := false) (disch := omega) only [go_sem, ia_someH, hP, h1_0, h1_1]
        first | done | (refine congrArg (Value.int .i64) ?_; omega)
      · simp (maxSteps := 1000000) (dsimp := false) (disch := omega) only [go_sem, ia_someH, hP, h1_0, h1_1]
      · rfl
      · trivial
    · clear hX4 hY4 X4 Y4
      refine SX.skip ?_
      try simp only [andThen_normal, andThen_ret, andThen_exit, inBlk_normal, inBlk_ret, inBlk_exit, Nat.reduceEqDiff, if_true, if_false, ↓reduceIte]
      refine hK2 () _ (L) _ (by first | exact Less.refl _ | exact Less.drop _ _ | exact Less.drops (Less.drop _ _) | exact Less.drops (Less.drops (Less.drop _ _)) | exact Less.drops (Less.drops (Less.drops (Less.drop _ _))) | exact Less.drops (Less.drops (Less.drops (Less.drops (Less.drop _ _))))) ?_
      try dsimp only
      refine ⟨?_, ?_, ?_, ?_⟩
      · simp (maxSteps := 1000000) (dsimp := false) (disch := omega) only [go_sem, ia_someH, hP, h1_0, h1_1]
        first | done | (refine congrArg (Value.int .i64) ?_; omega)
      · simp (maxSteps := 1000000) (dsimp := false) (disch := omega) only [go_sem, ia_someH, hP, h1_0, h1_1]
      · rfl
      · trivial
  · intro ss T2 L2 hI
    simp only [h1_1] at hI 
    obtain ⟨h2_0, h2_1, hL2, hinv⟩ := hI
    replace hL2 := hL2.symm
    subst hL2
    clear h1_0 h1_1 T1
    refine SX.seq_k fun K5 hK5 => ?_
    refine SX.region_d [some 10, some 11, some 12, some 4] rfl (fun ops hops => ?_)
    unfold Dsts at hops
    simp (maxSteps := 1000000) (dsimp := false) (disch := omega) only [go_sem, ia_someH, hP, h2_0, h2_1, hops]
    repeat' ((first | refine And.intro (by omega) ?_ | fail); try (with_reducible refine stI ?_); try simp (maxSteps := 1000000) (dsimp := false) (disch := omega) only [go_sem, ia_someH, hP, h2_0, h2_1, hops])
    refine hK5 _ _ ?_
    try clear hK5 K5
    refine SX.ret ?_
    simp only [andThen_normal, andThen_ret, andThen_exit, inBlk_normal, inBlk_ret, inBlk_exit, Nat.reduceEqDiff, if_true, if_false, ↓reduceIte, retQ_ret]
    try simp only [res0, res1, res2, res3, stK_e, go_sem, ia_someH, hP, h2_0, h2_1]
    exact ⟨_, _, Less.refl _, rfl, rfl, rfl⟩

end Go.Proofs.Ytgioegdjeodpiaa
set_option linter.unusedVariables false
set_option linter.unusedSimpArgs false
namespace Go.Proofs.Ytgioegdjeodpiaa
open Go.RowKit Go.SX
open Go.SX renaming ia_someH → Φa

theorem eqT_25 : EqT Try.prog 25 [.i .u8, .i .u8, .i .u8, .i .u8, .i .u8, .i .u8, .i .u8, .i .u8, .i .u8, .i .u8, .i .u8, .i .u8, .i .u8, .i .u8, .i .u8, .i .u8] := ⟨by kernel_rfl, by kernel_rfl, by kernel_rfl, by kernel_rfl, by kernel_rfl⟩
theorem okV_V {g : GM} (h : OkG g) : okVs [.i .u8, .i .u8, .i .u8, .i .u8, .i .u8, .i .u8, .i .u8, .i .u8, .i .u8, .i .u8, .i .u8, .i .u8, .i .u8, .i .u8, .i .u8, .i .u8] [.int .u8 (g.V.getD 0 0), .int .u8 (g.V.getD 1 0), .int .u8 (g.V.getD 2 0), .int .u8 (g.V.getD 3 0), .int .u8 (g.V.getD 4 0), .int .u8 (g.V.getD 5 0), .int .u8 (g.V.getD 6 0), .int .u8 (g.V.getD 7 0), .int .u8 (g.V.getD 8 0), .int .u8 (g.V.getD 9 0), .int .u8 (g.V.getD 10 0), .int .u8 (g.V.getD 11 0), .int .u8 (g.V.getD 12 0), .int .u8 (g.V.getD 13 0), .int .u8 (g.V.getD 14 0), .int .u8 (g.V.getD 15 0)] = true := by
  have hb := byte_at h.Vb
  simp only [okVs, okV, wf_u8, hb, decide_true, Bool.and_self, and_self, Bool.and_true, beq_self_eq_true, Bool.true_and]
theorem sixteen {l m : List Int} (hl : l.length = 16) (hm : m.length = 16) (h : ∀ j, j < 16 → l.getD j 0 = m.getD j 0) : l = m := list_eq_of (by omega) fun j hj => by
  have := h j (by omega)
  rw [List.getD_eq_getElem?_getD, List.getD_eq_getElem?_getD, List.getElem?_eq_getElem hj, List.getElem?_eq_getElem (by omega)] at this
  rw [List.getElem?_eq_getElem hj, List.getElem?_eq_getElem (by omega)]
  simpa using this
theorem vEq {a b : GM} (ha : a.V.length = 16) (hb : b.V.length = 16) {r : Bool} (hr : r = true ↔ ([.int .u8 (a.V.getD 0 0), .int .u8 (a.V.getD 1 0), .int .u8 (a.V.getD 2 0), .int .u8 (a.V.getD 3 0), .int .u8 (a.V.getD 4 0), .int .u8 (a.V.getD 5 0), .int .u8 (a.V.getD 6 0), .int .u8 (a.V.getD 7 0), .int .u8 (a.V.getD 8 0), .int .u8 (a.V.getD 9 0), .int .u8 (a.V.getD 10 0), .int .u8 (a.V.getD 11 0), .int .u8 (a.V.getD 12 0), .int .u8 (a.V.getD 13 0), .int .u8 (a.V.getD 14 0), .int .u8 (a.V.getD 15 0)] : List Value).map litV = ([.int .u8 (b.V.getD 0 0), .int .u8 (b.V.getD 1 0), .int .u8 (b.V.getD 2 0), .int .u8 (b.V.getD 3 0), .int .u8 (b.V.getD 4 0), .int .u8 (b.V.getD 5 0), .int .u8 (b.V.getD 6 0), .int .u8 (b.V.getD 7 0), .int .u8 (b.V.getD 8 0), .int .u8 (b.V.getD 9 0), .int .u8 (b.V.getD 10 0), .int .u8 (b.V.getD 11 0), .int .u8 (b.V.getD 12 0), .int .u8 (b.V.getD 13 0), .int .u8 (b.V.getD 14 0), .int .u8 (b.V.getD 15 0)] : List Value).map litV) : r = decide (a.V = b.V) := by
  rw [Bool.eq_iff_iff, hr, decide_eq_true_eq]
  simp only [litV, List.map_cons, List.map_nil, List.cons.injEq, Lit.int.injEq, true_and, and_true]
  constructor
  · rintro ⟨h0, h1, h2, h3, h4, h5, h6, h7, h8, h9, h10, h11, h12, h13, h14, h15⟩
    refine sixteen ha hb fun j hj => ?_
    match j, hj with
    | 0, _ => exact h0
    | 1, _ => exact h1
    | 2, _ => exact h2
    | 3, _ => exact h3
    | 4, _ => exact h4
    | 5, _ => exact h5
    | 6, _ => exact h6
    | 7, _ => exact h7
    | 8, _ => exact h8
    | 9, _ => exact h9
    | 10, _ => exact h10
    | 11, _ => exact h11
    | 12, _ => exact h12
    | 13, _ => exact h13
    | 14, _ => exact h14
    | 15, _ => exact h15
    | n + 16, h => omega
  · intro h
    rw [h]
    exact ⟨rfl, rfl, rfl, rfl, rfl, rfl, rfl, rfl, rfl, rfl, rfl, rfl, rfl, rfl, rfl, rfl⟩
def sameB (a b : GM) : Bool := decide (a.st = b.st) && (decide (a.V = b.V) && decide (a.I = b.I) && decide (a.PC = b.PC) && decide (a.dl = b.dl) && decide (a.sd = b.sd) && decide (a.pg = b.pg) && decide (a.mm = b.mm))
theorem sameB_iff {a b : GM} : sameB a b = true ↔ a = b := by
  unfold sameB
  simp only [Bool.and_eq_true, decide_eq_true_eq]
  constructor
  · rintro ⟨h1, ⟨⟨⟨⟨⟨⟨h2, h3⟩, h4⟩, h5⟩, h6⟩, h7⟩, h8⟩⟩
    cases a; cases b; simp_all
  · rintro rfl
    simp
theorem sameB_self (g : GM) : sameB g g = true := sameB_iff.2 rfl
theorem txtEq {l m : List Int} (hl : Byte l) (hm : Byte m) : (txt l = txt m) = (l = m) := propext ⟨txt_inj hl hm, fun h => by rw [h]⟩
theorem sameB_st {a b : GM} (h : ¬ a.st = b.st) : sameB a b = false := by
  unfold sameB
  rw [decide_eq_false h, Bool.false_and]
theorem st_eq {l m : List Int} (h : l.length = m.length) (he : ∀ j, j < l.length → l.getD j 0 = m.getD j 0) : l = m := list_eq_of h fun j hj => by
  have := he j hj
  rw [List.getD_eq_getElem?_getD, List.getD_eq_getElem?_getD, List.getElem?_eq_getElem hj, List.getElem?_eq_getElem (by omega)] at this
  rw [List.getElem?_eq_getElem hj, List.getElem?_eq_getElem (by omega)]
  simpa using this
set_option maxHeartbeats 1000000 in
set_option maxRecDepth 100000 in
theorem Same_spec {Γ : Ctx} (hP : Γ.P = Try.prog) {L : Hp} {a b : GM} {sa pa ma sb pb mb : Value} (ha : OkG a) (hb : OkG b) (hs : SlI .u16 (Cell Γ L) sa a.st) (hp : SlI .u8 (Cell Γ L) pa a.pg) (hm : SlI .u8 (Cell Γ L) ma a.mm) (ks : SlI .u16 (Cell Γ L) sb b.st) (kp : SlI .u8 (Cell Γ L) pb b.pg) (km : SlI .u8 (Cell Γ L) mb b.mm) (hsl : a.st.length ≤ 2147483647) (ksl : b.st.length ≤ 2147483647) :
    SCall Γ 16 #[(.agg (a.cells sa pa ma).toArray), (.agg (b.cells sb pb mb).toArray)] L (fun v L' => v = .bool (sameB a b) ∧ L' = L) := by
  obtain ⟨As, cs, rfl, hcs⟩ := slShape hs
  obtain ⟨Ap, cp, rfl, hcp⟩ := slShape hp
  obtain ⟨Am, cm, rfl, hcm⟩ := slShape hm
  obtain ⟨Bs, ds, rfl, kcs⟩ := slShape ks
  obtain ⟨Bp, dp, rfl, kcp⟩ := slShape kp
  obtain ⟨Bm, dm, rfl, kcm⟩ := slShape km
  have haI := ha.I
  have hbI := hb.I
  obtain ⟨As', cs', he1, hc1, hA1⟩ := id hs
  obtain ⟨Bs', ds', ke1, kc1, kA1⟩ := id ks
  refine SCall.enter (n := 82) (res1 4) (hP ▸ Try.func16) rfl rfl (by simp) (res1_ok rfl) ?_
  refine SX.seq_k fun K1 hK1 => ?_
  refine SX.region_d [some 2, some 3, some 4] rfl (fun ops hops => ?_)
  unfold Dsts at hops
  simp (maxSteps:=1000000)(dsimp:=false)(disch:=omega) only [go_sem, Φa, hP, hops]
  intro g0
  try with_reducible refine stI ?_
  try simp (maxSteps:=1000000)(dsimp:=false)(disch:=omega) only [go_sem, Φa, hP, hops]
  intro g1
  try with_reducible refine stI ?_
  try simp (maxSteps:=1000000)(dsimp:=false)(disch:=omega) only [go_sem, Φa, hP, hops]
  refine hK1 _ _ ?_
  try clear hK1 K1
  refine SX.seq_k fun K2 hK2 => ?_
  refine SX.seq_k fun K3 hK3 => ?_
  refine SX.region_d [some 6, some 7, some 8, some 9, some 10, some 11, some 12] rfl (fun ops hops => ?_)
  unfold Dsts at hops
  simp (maxSteps:=1000000)(dsimp:=false)(disch:=omega) only [go_sem, Φa, hP, hops]
  refine ⟨_, Cell.at 1 rfl (show (a.cells _ _ _)[18]? = _ from rfl), ?_⟩
  try with_reducible refine stI ?_
  try simp (maxSteps:=1000000)(dsimp:=false)(disch:=omega) only [go_sem, Φa, hP, hops]
  refine ⟨_, Cell.at 0 rfl (show (b.cells _ _ _)[18]? = _ from rfl), ?_⟩
  try with_reducible refine stI ?_
  try simp (maxSteps:=1000000)(dsimp:=false)(disch:=omega) only [go_sem, Φa, hP, hops]
  refine hK3 _ _ ?_
  try clear hK3 K3
  refine SX.live [2, 3, 12] (fun T1 hT1 => ?_)
  simp only [forall_mem_cons', forall_mem_nil', go_sem, Φa, hP] at hT1
  obtain ⟨h1_2, h1_3, h1_12⟩ := hT1
  refine SX.cond_k fun X4 Y4 hX4 hY4 => ?_
  simp (maxSteps:=1000000)(dsimp:=false)(disch:=omega) only [go_sem, Φa, hP, h1_2, h1_3, h1_12, condVC]
  refine ⟨fun hc12 => hX4 ?_, fun hc12 => hY4 ?_⟩
  · clear hX4 hY4 X4 Y4
    refine SX.seq_k fun K5 hK5 => ?_
    refine SX.region_d [some 4] rfl (fun ops hops => ?_)
    unfold Dsts at hops
    simp (maxSteps:=1000000)(dsimp:=false)(disch:=omega) only [go_sem, Φa, hP, h1_2, h1_3, h1_12, hops]
    refine hK5 _ _ ?_
    try clear hK5 K5
    refine SX.ret ?_
    simp only [andThen_normal, andThen_ret, andThen_exit, inBlk_normal, inBlk_ret, inBlk_exit, Nat.reduceEqDiff, if_true, if_false, ↓reduceIte, retQ_ret]
    try simp only [res0, res1, res2, res3, stK_e, go_sem, Φa, hP, h1_2, h1_3, h1_12]
    refine ⟨_, _, Less.drops (Less.drop _ _), rfl, ?_, rfl⟩
    rw [sameB_st (fun h => hc12 (by rw [h]))]
  · clear hX4 hY4 X4 Y4
    refine SX.skip ?_
    try simp only [andThen_normal, andThen_ret, andThen_exit, inBlk_normal, inBlk_ret, inBlk_exit, Nat.reduceEqDiff, if_true, if_false, ↓reduceIte]
    refine hK2 _ _ ?_
    try clear hK2 K2
    refine SX.seq_k fun K6 hK6 => ?_
    refine SX.seq_k fun K7 hK7 => ?_
    refine SX.region_d [some 5] rfl (fun ops hops => ?_)
    unfold Dsts at hops
    simp (maxSteps:=1000000)(dsimp:=false)(disch:=omega) only [go_sem, Φa, hP, h1_2, h1_3, h1_12, hops]
    refine hK7 _ _ ?_
    try clear hK7 K7
    refine SX.block ?_
    refine SX.live [2, 3, 5] (fun T2 hT2 => ?_)
    simp only [forall_mem_cons', forall_mem_nil', go_sem, Φa, hP, h1_2, h1_3, h1_12] at hT2
    obtain ⟨h2_2, h2_3, h2_5⟩ := hT2
    clear h1_2 h1_3 h1_12 T1
    refine SX.loop_k (fun (ss : (Nat)) T L' => (fun (k : Nat) => T 5 = .int .i64 (k : Int) ∧ T 2 = T2 2 ∧ T 3 = T2 3 ∧ L' = some (g1, .cells (b.cells (.slice Bs b.st.length ds) (.slice Bp b.pg.length dp) (.slice Bm b.mm.length dm)).toArray 29 (0, 0)) :: some (g0, .cells (a.cells (.slice As a.st.length cs) (.slice Ap a.pg.length cp) (.slice Am a.mm.length cm)).toArray 29 (0, 0)) :: L ∧ (k ≤ a.st.length ∧ ∀ j, j < k → a.st.getD j 0 = b.st.getD j 0)) (ss)) (fun (ss : (Nat)) => (fun (k : Nat) => a.st.length - k) (ss)) 0 ?_ ?_
    · try dsimp only
      refine ⟨?_, ?_, ?_, ?_, ?_⟩
      · first | exact h2_5 | (rw [h2_5]; rfl) | (rw [h2_5]; simp; done)
      · rfl
      · rfl
      · rfl
      · exact ⟨Nat.zero_le _, fun j hj => absurd hj (Nat.not_lt_zero _)⟩
    · intro k T3 L3 hI K8 hK8
      try dsimp only at hI hK8
      simp only [h2_2, h2_3] at hI hK8
      obtain ⟨h3_5, h3_2, h3_3, hL3, ⟨hk, hin⟩⟩ := hI
      replace hL3 := hL3.symm
      subst hL3
      clear h2_2 h2_3 h2_5 T2
      refine SX.seq_k fun K9 hK9 => ?_
      refine SX.seq_k fun K10 hK10 => ?_
      refine SX.region_d [some 13, some 14, some 15, some 16, some 17] rfl (fun ops hops => ?_)
      unfold Dsts at hops
      simp (maxSteps:=1000000)(dsimp:=false)(disch:=omega) only [go_sem, Φa, hP, h3_5, h3_2, h3_3, hops]
      refine ⟨_, Cell.at 1 rfl (show (a.cells _ _ _)[18]? = _ from rfl), ?_⟩
      try with_reducible refine stI ?_
      try simp (maxSteps:=1000000)(dsimp:=false)(disch:=omega) only [go_sem, Φa, hP, h3_5, h3_2, h3_3, hops]
      refine hK10 _ _ ?_
      try clear hK10 K10
      refine SX.cond_k fun X11 Y11 hX11 hY11 => ?_
      simp (maxSteps:=1000000)(dsimp:=false)(disch:=omega) only [go_sem, Φa, hP, h3_5, h3_2, h3_3, condVC]
      refine ⟨fun hc17 => hX11 ?_, fun hc17 => hY11 ?_⟩
      · clear hX11 hY11 X11 Y11
        refine SX.skip ?_
        try simp only [andThen_normal, andThen_ret, andThen_exit, inBlk_normal, inBlk_ret, inBlk_exit, Nat.reduceEqDiff, if_true, if_false, ↓reduceIte]
        refine hK9 _ _ ?_
        try clear hK9 K9
        refine SX.seq_k fun K12 hK12 => ?_
        refine SX.block ?_
        refine SX.seq_k fun K13 hK13 => ?_
        have hkl : k < a.st.length := by omega
        have hkm : k < b.st.length := by omega
        have he2 : As = As' := by injection he1
        have ke2 : Bs = Bs' := by injection ke1
        obtain ⟨a1, e1, hm1⟩ := hA1 k _ (getD_some hkl)
        obtain ⟨a2, e2, hm2⟩ := kA1 k _ (getD_some hkm)
        rw [← he2] at e1
        rw [← ke2] at e2
        rw [Nat.mul_one] at hm1 hm2
        change Cell Γ _ _ (.int .u16 _) at hm1
        change Cell Γ _ _ (.int .u16 _) at hm2
        refine SX.quiet_d (hP ▸ T.mixed) (by kernel_rfl) [some 20, some 21, some 22, some 23, some 24, some 25, some 26, some 27, some 28, some 29, some 30] rfl (fun ops hops => ?_)
        unfold Dsts at hops
        simp (maxSteps:=1000000)(dsimp:=false)(disch:=omega) only [go_sem, Φa, hP, h3_5, h3_2, h3_3, hops, e1, e2]
        refine ⟨_, Cell.at 1 rfl (show (a.cells _ _ _)[18]? = _ from rfl), ?_⟩
        try with_reducible refine stI ?_
        try simp (maxSteps:=1000000)(dsimp:=false)(disch:=omega) only [go_sem, Φa, hP, h3_5, h3_2, h3_3, hops, e1, e2]
        refine ⟨_, Cell.cons _ (Cell.cons _ hm1), ?_⟩
        try with_reducible refine stI ?_
        try simp (maxSteps:=1000000)(dsimp:=false)(disch:=omega) only [go_sem, Φa, hP, h3_5, h3_2, h3_3, hops, e1, e2]
        refine ⟨_, Cell.at 0 rfl (show (b.cells _ _ _)[18]? = _ from rfl), ?_⟩
        try with_reducible refine stI ?_
        try simp (maxSteps:=1000000)(dsimp:=false)(disch:=omega) only [go_sem, Φa, hP, h3_5, h3_2, h3_3, hops, e1, e2]
        refine ⟨_, Cell.cons _ (Cell.cons _ hm2), ?_⟩
        try with_reducible refine stI ?_
        try simp (maxSteps:=1000000)(dsimp:=false)(disch:=omega) only [go_sem, Φa, hP, h3_5, h3_2, h3_3, hops, e1, e2]
        refine hK13 _ _ ?_
        try clear hK13 K13
        refine SX.live [2, 3, 5, 30] (fun T4 hT4 => ?_)
        simp only [forall_mem_cons', forall_mem_nil', go_sem, Φa, hP, h3_5, h3_2, h3_3] at hT4
        obtain ⟨h4_2, h4_3, h4_5, h4_30⟩ := hT4
        clear h3_5 h3_2 h3_3 T3
        refine SX.cond_k fun X14 Y14 hX14 hY14 => ?_
        simp (maxSteps:=1000000)(dsimp:=false)(disch:=omega) only [go_sem, Φa, hP, h4_2, h4_3, h4_5, h4_30, condVC]
        refine ⟨fun hc30 => hX14 ?_, fun hc30 => hY14 ?_⟩
        · clear hX14 hY14 X14 Y14
          refine SX.seq_k fun K15 hK15 => ?_
          refine SX.region_d [some 4] rfl (fun ops hops => ?_)
          unfold Dsts at hops
          simp (maxSteps:=1000000)(dsimp:=false)(disch:=omega) only [go_sem, Φa, hP, h4_2, h4_3, h4_5, h4_30, hops]
          refine hK15 _ _ ?_
          try clear hK15 K15
          refine SX.ret ?_
          simp only [andThen_normal, andThen_ret, andThen_exit, inBlk_normal, inBlk_ret, inBlk_exit, Nat.reduceEqDiff, if_true, if_false, ↓reduceIte, retQ_ret]
          try simp only [res0, res1, res2, res3, stK_e, go_sem, Φa, hP, h4_2, h4_3, h4_5, h4_30]
          refine ⟨_, _, Less.drops (Less.drop _ _), rfl, ?_, rfl⟩
          rw [sameB_st (fun h => hc30 (by rw [h]))]
        · clear hX14 hY14 X14 Y14
          refine SX.skip ?_
          try simp only [andThen_normal, andThen_ret, andThen_exit, inBlk_normal, inBlk_ret, inBlk_exit, Nat.reduceEqDiff, if_true, if_false, ↓reduceIte]
          refine hK12 _ _ ?_
          try clear hK12 K12
          refine SX.region_d [some 18, some 19, some 5] rfl (fun ops hops => ?_)
          unfold Dsts at hops
          simp (maxSteps:=1000000)(dsimp:=false)(disch:=omega) only [go_sem, Φa, hP, h4_2, h4_3, h4_5, h4_30, hops]
          repeat' ((first | refine And.intro (by omega) ?_ | fail); try (with_reducible refine stI ?_); try simp (maxSteps:=1000000)(dsimp:=false)(disch:=omega) only [go_sem, Φa, hP, h4_2, h4_3, h4_5, h4_30, hops])
          refine hK8 (k + 1) _ (some (g1, .cells (b.cells (.slice Bs b.st.length ds) (.slice Bp b.pg.length dp) (.slice Bm b.mm.length dm)).toArray 29 (0, 0)) :: some (g0, .cells (a.cells (.slice As a.st.length cs) (.slice Ap a.pg.length cp) (.slice Am a.mm.length cm)).toArray 29 (0, 0)) :: L) _ (by simp only [e1, e2]; exact Less.refl _) ?_ ?_
          · try dsimp only
            refine ⟨?_, ?_, ?_, ?_, ?_⟩
            · simp (maxSteps:=1000000)(dsimp:=false)(disch:=omega) only [go_sem, Φa, hP, h4_2, h4_3, h4_5, h4_30]
              first | done | rfl | skip
            · simp (maxSteps:=1000000)(dsimp:=false)(disch:=omega) only [go_sem, Φa, hP, h4_2, h4_3, h4_5, h4_30]
            · simp (maxSteps:=1000000)(dsimp:=false)(disch:=omega) only [go_sem, Φa, hP, h4_2, h4_3, h4_5, h4_30]
            · rfl
            · refine ⟨by omega, fun j hj => ?_⟩
              rcases Nat.lt_succ_iff_lt_or_eq.1 hj with h | rfl
              · exact hin j h
              · first | exact hc30 | omega
          · (try dsimp only); omega
      · clear hX11 hY11 X11 Y11
        refine SX.exit ?_
        try simp only [andThen_normal, andThen_ret, andThen_exit, inBlk_normal, inBlk_ret, inBlk_exit, Nat.reduceEqDiff, if_true, if_false, ↓reduceIte]
        refine hK6 _ _ ?_
        try clear hK6 K6
        refine SX.seq_k fun K16 hK16 => ?_
        refine SX.region_xd [some 31, some 32, some 33, some 34, some 35, some 36, some 37, some 38, some 39, some 40, some 41, some 42, some 43, some 44, some 45, some 46, some 47, some 48, some 49, some 50, some 51, some 52, some 53, some 54, some 55, some 56, some 57, some 58, some 59, some 60, some 61, some 62, some 63, some 64, some 65, some 66, some 67, some 68, some 69, some 70, some 71, some 72, some 73, some 74, some 75, some 76, some 77, some 78, some 79, some 80, some 81, some 4] rfl (fun ops hops => ?_)
        unfold Dsts at hops
        refine RX.live [2, 3] (fun T5 hT5 => ?_)
        simp only [forall_mem_cons', forall_mem_nil', go_sem, Φa, hP, h3_5, h3_2, h3_3] at hT5
        obtain ⟨h5_2, h5_3⟩ := hT5
        clear h3_5 h3_2 h3_3 T3
        refine RX.join 12 (fun (ss : Unit) T L' => T 42 = .bool (decide (a.V = b.V) && decide (a.I = b.I)) ∧ T 2 = T5 2 ∧ T 3 = T5 3 ∧ L' = some (g1, .cells (b.cells (.slice Bs b.st.length ds) (.slice Bp b.pg.length dp) (.slice Bm b.mm.length dm)).toArray 29 (0, 0)) :: some (g0, .cells (a.cells (.slice As a.st.length cs) (.slice Ap a.pg.length cp) (.slice Am a.mm.length cm)).toArray 29 (0, 0)) :: L ∧ (True)) (fun K17 hK17 => ?_) ?_
        · simp only [h5_2, h5_3] at hK17
          simp (maxSteps:=1000000)(dsimp:=false)(disch:=omega) only [go_sem, Φa, hP, h5_2, h5_3, hops]
          repeat' (first | refine iteB (fun hg => ?_) (fun hg => ?_) | refine iteI (fun hg => ?_) (fun hg => ?_) | ((first | (refine aggEq_of eqT_25 (okV_V ha) (okV_V hb) (fun r hr => ?_); obtain rfl := vEq ha.V hb.V hr) | refine cv_row (hP ▸ Try.underlying23) (hP ▸ Try.underlying9) (hP ▸ Try.underlying5) (SlI.cons _ (SlI.cons _ hp)) ha.pg ?_ | refine conv_row (hP ▸ Try.underlying23) (hP ▸ Try.underlying9) (hP ▸ Try.underlying5) (SlI.cons _ (SlI.cons _ hp)) ha.pg ?_ | refine cv_row (hP ▸ Try.underlying23) (hP ▸ Try.underlying9) (hP ▸ Try.underlying5) (SlI.cons _ (SlI.cons _ kp)) hb.pg ?_ | refine conv_row (hP ▸ Try.underlying23) (hP ▸ Try.underlying9) (hP ▸ Try.underlying5) (SlI.cons _ (SlI.cons _ kp)) hb.pg ?_ | refine cv_row (hP ▸ Try.underlying23) (hP ▸ Try.underlying9) (hP ▸ Try.underlying5) (SlI.cons _ (SlI.cons _ hm)) ha.mm ?_ | refine conv_row (hP ▸ Try.underlying23) (hP ▸ Try.underlying9) (hP ▸ Try.underlying5) (SlI.cons _ (SlI.cons _ hm)) ha.mm ?_ | refine cv_row (hP ▸ Try.underlying23) (hP ▸ Try.underlying9) (hP ▸ Try.underlying5) (SlI.cons _ (SlI.cons _ km)) hb.mm ?_ | refine conv_row (hP ▸ Try.underlying23) (hP ▸ Try.underlying9) (hP ▸ Try.underlying5) (SlI.cons _ (SlI.cons _ km)) hb.mm ?_ | refine And.intro (by omega) ?_ | refine ⟨_, Cell.at 0 rfl rfl, _, Cell.at 0 rfl rfl, _, Cell.at 0 rfl rfl, _, Cell.at 0 rfl rfl, _, Cell.at 0 rfl rfl, _, Cell.at 0 rfl rfl, _, Cell.at 0 rfl rfl, _, Cell.at 0 rfl rfl, _, Cell.at 0 rfl rfl, _, Cell.at 0 rfl rfl, _, Cell.at 0 rfl rfl, _, Cell.at 0 rfl rfl, _, Cell.at 0 rfl rfl, _, Cell.at 0 rfl rfl, _, Cell.at 0 rfl rfl, _, Cell.at 0 rfl rfl, ?_⟩ | refine ⟨_, Cell.at 1 rfl rfl, _, Cell.at 1 rfl rfl, _, Cell.at 1 rfl rfl, _, Cell.at 1 rfl rfl, _, Cell.at 1 rfl rfl, _, Cell.at 1 rfl rfl, _, Cell.at 1 rfl rfl, _, Cell.at 1 rfl rfl, _, Cell.at 1 rfl rfl, _, Cell.at 1 rfl rfl, _, Cell.at 1 rfl rfl, _, Cell.at 1 rfl rfl, _, Cell.at 1 rfl rfl, _, Cell.at 1 rfl rfl, _, Cell.at 1 rfl rfl, _, Cell.at 1 rfl rfl, ?_⟩ | refine ⟨_, Cell.at 0 rfl rfl, ?_⟩ | refine ⟨_, Cell.at 1 rfl rfl, ?_⟩ | fail); try (with_reducible refine stI ?_); try simp (maxSteps:=1000000)(dsimp:=false)(disch:=omega) only [go_sem, Φa, hP, h5_2, h5_3, hops]) | simp (maxSteps:=1000000)(dsimp:=false)(disch:=omega) only [go_sem, Φa, hP, h5_2, h5_3, hops] | fail)
          all_goals
            refine hK17 () _ (some (g1, .cells (b.cells (.slice Bs b.st.length ds) (.slice Bp b.pg.length dp) (.slice Bm b.mm.length dm)).toArray 29 (0, 0)) :: some (g0, .cells (a.cells (.slice As a.st.length cs) (.slice Ap a.pg.length cp) (.slice Am a.mm.length cm)).toArray 29 (0, 0)) :: L) _ (by first | exact Less.refl _ | exact Less.drop _ _ | exact Less.drops (Less.drop _ _) | exact Less.drops (Less.drops (Less.drop _ _)) | exact Less.drops (Less.drops (Less.drops (Less.drop _ _))) | exact Less.drops (Less.drops (Less.drops (Less.drops (Less.drop _ _))))) ?_
            try dsimp only
            refine ⟨?_, ?_, ?_, ?_, ?_⟩
            · simp (maxSteps:=1000000)(dsimp:=false)(disch:=omega) only [go_sem, Φa, hP, h5_2, h5_3]
              first | done | (refine congrArg Value.bool ?_; simp_all; done) | (refine congrArg Value.bool ?_; simp_all; omega)
            · simp (maxSteps:=1000000)(dsimp:=false)(disch:=omega) only [go_sem, Φa, hP, h5_2, h5_3]
            · simp (maxSteps:=1000000)(dsimp:=false)(disch:=omega) only [go_sem, Φa, hP, h5_2, h5_3]
            · rfl
            · trivial
        · intro ss T6 L6 hI
          simp only [h5_2, h5_3] at hI 
          obtain ⟨h6_42, h6_2, h6_3, hL6, hinv⟩ := hI
          replace hL6 := hL6.symm
          subst hL6
          clear h5_2 h5_3 T5
          refine RX.live [2, 3, 42] (fun T7 hT7 => ?_)
          simp only [forall_mem_cons', forall_mem_nil', go_sem, Φa, hP, h6_42, h6_2, h6_3] at hT7
          obtain ⟨h7_2, h7_3, h7_42⟩ := hT7
          clear h6_42 h6_2 h6_3 T6
          refine RX.join 7 (fun (ss : Unit) T L' => T 49 = .bool (decide (a.V = b.V) && decide (a.I = b.I) && decide (a.PC = b.PC)) ∧ T 2 = T7 2 ∧ T 3 = T7 3 ∧ L' = some (g1, .cells (b.cells (.slice Bs b.st.length ds) (.slice Bp b.pg.length dp) (.slice Bm b.mm.length dm)).toArray 29 (0, 0)) :: some (g0, .cells (a.cells (.slice As a.st.length cs) (.slice Ap a.pg.length cp) (.slice Am a.mm.length cm)).toArray 29 (0, 0)) :: L ∧ (True)) (fun K18 hK18 => ?_) ?_
          · simp only [h7_2, h7_3] at hK18
            simp (maxSteps:=1000000)(dsimp:=false)(disch:=omega) only [go_sem, Φa, hP, h7_2, h7_3, h7_42, hops]
            repeat' (first | refine iteB (fun hg => ?_) (fun hg => ?_) | refine iteI (fun hg => ?_) (fun hg => ?_) | ((first | (refine aggEq_of eqT_25 (okV_V ha) (okV_V hb) (fun r hr => ?_); obtain rfl := vEq ha.V hb.V hr) | refine cv_row (hP ▸ Try.underlying23) (hP ▸ Try.underlying9) (hP ▸ Try.underlying5) (SlI.cons _ (SlI.cons _ hp)) ha.pg ?_ | refine conv_row (hP ▸ Try.underlying23) (hP ▸ Try.underlying9) (hP ▸ Try.underlying5) (SlI.cons _ (SlI.cons _ hp)) ha.pg ?_ | refine cv_row (hP ▸ Try.underlying23) (hP ▸ Try.underlying9) (hP ▸ Try.underlying5) (SlI.cons _ (SlI.cons _ kp)) hb.pg ?_ | refine conv_row (hP ▸ Try.underlying23) (hP ▸ Try.underlying9) (hP ▸ Try.underlying5) (SlI.cons _ (SlI.cons _ kp)) hb.pg ?_ | refine cv_row (hP ▸ Try.underlying23) (hP ▸ Try.underlying9) (hP ▸ Try.underlying5) (SlI.cons _ (SlI.cons _ hm)) ha.mm ?_ | refine conv_row (hP ▸ Try.underlying23) (hP ▸ Try.underlying9) (hP ▸ Try.underlying5) (SlI.cons _ (SlI.cons _ hm)) ha.mm ?_ | refine cv_row (hP ▸ Try.underlying23) (hP ▸ Try.underlying9) (hP ▸ Try.underlying5) (SlI.cons _ (SlI.cons _ km)) hb.mm ?_ | refine conv_row (hP ▸ Try.underlying23) (hP ▸ Try.underlying9) (hP ▸ Try.underlying5) (SlI.cons _ (SlI.cons _ km)) hb.mm ?_ | refine And.intro (by omega) ?_ | refine ⟨_, Cell.at 0 rfl rfl, ?_⟩ | refine ⟨_, Cell.at 1 rfl rfl, ?_⟩ | fail); try (with_reducible refine stI ?_); try simp (maxSteps:=1000000)(dsimp:=false)(disch:=omega) only [go_sem, Φa, hP, h7_2, h7_3, h7_42, hops]) | simp (maxSteps:=1000000)(dsimp:=false)(disch:=omega) only [go_sem, Φa, hP, h7_2, h7_3, h7_42, hops] | fail)
            all_goals
              refine hK18 () _ (some (g1, .cells (b.cells (.slice Bs b.st.length ds) (.slice Bp b.pg.length dp) (.slice Bm b.mm.length dm)).toArray 29 (0, 0)) :: some (g0, .cells (a.cells (.slice As a.st.length cs) (.slice Ap a.pg.length cp) (.slice Am a.mm.length cm)).toArray 29 (0, 0)) :: L) _ (by first | exact Less.refl _ | exact Less.drop _ _ | exact Less.drops (Less.drop _ _) | exact Less.drops (Less.drops (Less.drop _ _)) | exact Less.drops (Less.drops (Less.drops (Less.drop _ _))) | exact Less.drops (Less.drops (Less.drops (Less.drops (Less.drop _ _))))) ?_
              try dsimp only
              refine ⟨?_, ?_, ?_, ?_, ?_⟩
              · simp (maxSteps:=1000000)(dsimp:=false)(disch:=omega) only [go_sem, Φa, hP, h7_2, h7_3, h7_42]
                first | done | (refine congrArg Value.bool ?_; simp_all; done) | (refine congrArg Value.bool ?_; simp_all; omega)
              · simp (maxSteps:=1000000)(dsimp:=false)(disch:=omega) only [go_sem, Φa, hP, h7_2, h7_3, h7_42]
              · simp (maxSteps:=1000000)(dsimp:=false)(disch:=omega) only [go_sem, Φa, hP, h7_2, h7_3, h7_42]
              · rfl
              · trivial
          · intro ss T8 L8 hI
            simp only [h7_2, h7_3] at hI 
            obtain ⟨h8_49, h8_2, h8_3, hL8, hinv⟩ := hI
            replace hL8 := hL8.symm
            subst hL8
            clear h7_2 h7_3 h7_42 T7
            refine RX.live [2, 3, 49] (fun T9 hT9 => ?_)
            simp only [forall_mem_cons', forall_mem_nil', go_sem, Φa, hP, h8_49, h8_2, h8_3] at hT9
            obtain ⟨h9_2, h9_3, h9_49⟩ := hT9
            clear h8_49 h8_2 h8_3 T8
            refine RX.join 7 (fun (ss : Unit) T L' => T 56 = .bool (decide (a.V = b.V) && decide (a.I = b.I) && decide (a.PC = b.PC) && decide (a.dl = b.dl)) ∧ T 2 = T9 2 ∧ T 3 = T9 3 ∧ L' = some (g1, .cells (b.cells (.slice Bs b.st.length ds) (.slice Bp b.pg.length dp) (.slice Bm b.mm.length dm)).toArray 29 (0, 0)) :: some (g0, .cells (a.cells (.slice As a.st.length cs) (.slice Ap a.pg.length cp) (.slice Am a.mm.length cm)).toArray 29 (0, 0)) :: L ∧ (True)) (fun K19 hK19 => ?_) ?_
            · simp only [h9_2, h9_3] at hK19
              simp (maxSteps:=1000000)(dsimp:=false)(disch:=omega) only [go_sem, Φa, hP, h9_2, h9_3, h9_49, hops]
              repeat' (first | refine iteB (fun hg => ?_) (fun hg => ?_) | refine iteI (fun hg => ?_) (fun hg => ?_) | ((first | (refine aggEq_of eqT_25 (okV_V ha) (okV_V hb) (fun r hr => ?_); obtain rfl := vEq ha.V hb.V hr) | refine cv_row (hP ▸ Try.underlying23) (hP ▸ Try.underlying9) (hP ▸ Try.underlying5) (SlI.cons _ (SlI.cons _ hp)) ha.pg ?_ | refine conv_row (hP ▸ Try.underlying23) (hP ▸ Try.underlying9) (hP ▸ Try.underlying5) (SlI.cons _ (SlI.cons _ hp)) ha.pg ?_ | refine cv_row (hP ▸ Try.underlying23) (hP ▸ Try.underlying9) (hP ▸ Try.underlying5) (SlI.cons _ (SlI.cons _ kp)) hb.pg ?_ | refine conv_row (hP ▸ Try.underlying23) (hP ▸ Try.underlying9) (hP ▸ Try.underlying5) (SlI.cons _ (SlI.cons _ kp)) hb.pg ?_ | refine cv_row (hP ▸ Try.underlying23) (hP ▸ Try.underlying9) (hP ▸ Try.underlying5) (SlI.cons _ (SlI.cons _ hm)) ha.mm ?_ | refine conv_row (hP ▸ Try.underlying23) (hP ▸ Try.underlying9) (hP ▸ Try.underlying5) (SlI.cons _ (SlI.cons _ hm)) ha.mm ?_ | refine cv_row (hP ▸ Try.underlying23) (hP ▸ Try.underlying9) (hP ▸ Try.underlying5) (SlI.cons _ (SlI.cons _ km)) hb.mm ?_ | refine conv_row (hP ▸ Try.underlying23) (hP ▸ Try.underlying9) (hP ▸ Try.underlying5) (SlI.cons _ (SlI.cons _ km)) hb.mm ?_ | refine And.intro (by omega) ?_ | refine ⟨_, Cell.at 0 rfl rfl, ?_⟩ | refine ⟨_, Cell.at 1 rfl rfl, ?_⟩ | fail); try (with_reducible refine stI ?_); try simp (maxSteps:=1000000)(dsimp:=false)(disch:=omega) only [go_sem, Φa, hP, h9_2, h9_3, h9_49, hops]) | simp (maxSteps:=1000000)(dsimp:=false)(disch:=omega) only [go_sem, Φa, hP, h9_2, h9_3, h9_49, hops] | fail)
              all_goals
                refine hK19 () _ (some (g1, .cells (b.cells (.slice Bs b.st.length ds) (.slice Bp b.pg.length dp) (.slice Bm b.mm.length dm)).toArray 29 (0, 0)) :: some (g0, .cells (a.cells (.slice As a.st.length cs) (.slice Ap a.pg.length cp) (.slice Am a.mm.length cm)).toArray 29 (0, 0)) :: L) _ (by first | exact Less.refl _ | exact Less.drop _ _ | exact Less.drops (Less.drop _ _) | exact Less.drops (Less.drops (Less.drop _ _)) | exact Less.drops (Less.drops (Less.drops (Less.drop _ _))) | exact Less.drops (Less.drops (Less.drops (Less.drops (Less.drop _ _))))) ?_
                try dsimp only
                refine ⟨?_, ?_, ?_, ?_, ?_⟩
                · simp (maxSteps:=1000000)(dsimp:=false)(disch:=omega) only [go_sem, Φa, hP, h9_2, h9_3, h9_49]
                  first | done | (refine congrArg Value.bool ?_; simp_all; done) | (refine congrArg Value.bool ?_; simp_all; omega)
                · simp (maxSteps:=1000000)(dsimp:=false)(disch:=omega) only [go_sem, Φa, hP, h9_2, h9_3, h9_49]
                · simp (maxSteps:=1000000)(dsimp:=false)(disch:=omega) only [go_sem, Φa, hP, h9_2, h9_3, h9_49]
                · rfl
                · trivial
            · intro ss T10 L10 hI
              simp only [h9_2, h9_3] at hI 
              obtain ⟨h10_56, h10_2, h10_3, hL10, hinv⟩ := hI
              replace hL10 := hL10.symm
              subst hL10
              clear h9_2 h9_3 h9_49 T9
              refine RX.live [2, 3, 56] (fun T11 hT11 => ?_)
              simp only [forall_mem_cons', forall_mem_nil', go_sem, Φa, hP, h10_56, h10_2, h10_3] at hT11
              obtain ⟨h11_2, h11_3, h11_56⟩ := hT11
              clear h10_56 h10_2 h10_3 T10
              refine RX.join 7 (fun (ss : Unit) T L' => T 63 = .bool (decide (a.V = b.V) && decide (a.I = b.I) && decide (a.PC = b.PC) && decide (a.dl = b.dl) && decide (a.sd = b.sd)) ∧ T 2 = T11 2 ∧ T 3 = T11 3 ∧ L' = some (g1, .cells (b.cells (.slice Bs b.st.length ds) (.slice Bp b.pg.length dp) (.slice Bm b.mm.length dm)).toArray 29 (0, 0)) :: some (g0, .cells (a.cells (.slice As a.st.length cs) (.slice Ap a.pg.length cp) (.slice Am a.mm.length cm)).toArray 29 (0, 0)) :: L ∧ (True)) (fun K20 hK20 => ?_) ?_
              · simp only [h11_2, h11_3] at hK20
                simp (maxSteps:=1000000)(dsimp:=false)(disch:=omega) only [go_sem, Φa, hP, h11_2, h11_3, h11_56, hops]
                repeat' (first | refine iteB (fun hg => ?_) (fun hg => ?_) | refine iteI (fun hg => ?_) (fun hg => ?_) | ((first | (refine aggEq_of eqT_25 (okV_V ha) (okV_V hb) (fun r hr => ?_); obtain rfl := vEq ha.V hb.V hr) | refine cv_row (hP ▸ Try.underlying23) (hP ▸ Try.underlying9) (hP ▸ Try.underlying5) (SlI.cons _ (SlI.cons _ hp)) ha.pg ?_ | refine conv_row (hP ▸ Try.underlying23) (hP ▸ Try.underlying9) (hP ▸ Try.underlying5) (SlI.cons _ (SlI.cons _ hp)) ha.pg ?_ | refine cv_row (hP ▸ Try.underlying23) (hP ▸ Try.underlying9) (hP ▸ Try.underlying5) (SlI.cons _ (SlI.cons _ kp)) hb.pg ?_ | refine conv_row (hP ▸ Try.underlying23) (hP ▸ Try.underlying9) (hP ▸ Try.underlying5) (SlI.cons _ (SlI.cons _ kp)) hb.pg ?_ | refine cv_row (hP ▸ Try.underlying23) (hP ▸ Try.underlying9) (hP ▸ Try.underlying5) (SlI.cons _ (SlI.cons _ hm)) ha.mm ?_ | refine conv_row (hP ▸ Try.underlying23) (hP ▸ Try.underlying9) (hP ▸ Try.underlying5) (SlI.cons _ (SlI.cons _ hm)) ha.mm ?_ | refine cv_row (hP ▸ Try.underlying23) (hP ▸ Try.underlying9) (hP ▸ Try.underlying5) (SlI.cons _ (SlI.cons _ km)) hb.mm ?_ | refine conv_row (hP ▸ Try.underlying23) (hP ▸ Try.underlying9) (hP ▸ Try.underlying5) (SlI.cons _ (SlI.cons _ km)) hb.mm ?_ | refine And.intro (by omega) ?_ | refine ⟨_, Cell.at 0 rfl rfl, ?_⟩ | refine ⟨_, Cell.at 1 rfl rfl, ?_⟩ | fail); try (with_reducible refine stI ?_); try simp (maxSteps:=1000000)(dsimp:=false)(disch:=omega) only [go_sem, Φa, hP, h11_2, h11_3, h11_56, hops]) | simp (maxSteps:=1000000)(dsimp:=false)(disch:=omega) only [go_sem, Φa, hP, h11_2, h11_3, h11_56, hops] | fail)
                all_goals
                  refine hK20 () _ (some (g1, .cells (b.cells (.slice Bs b.st.length ds) (.slice Bp b.pg.length dp) (.slice Bm b.mm.length dm)).toArray 29 (0, 0)) :: some (g0, .cells (a.cells (.slice As a.st.length cs) (.slice Ap a.pg.length cp) (.slice Am a.mm.length cm)).toArray 29 (0, 0)) :: L) _ (by first | exact Less.refl _ | exact Less.drop _ _ | exact Less.drops (Less.drop _ _) | exact Less.drops (Less.drops (Less.drop _ _)) | exact Less.drops (Less.drops (Less.drops (Less.drop _ _))) | exact Less.drops (Less.drops (Less.drops (Less.drops (Less.drop _ _))))) ?_
                  try dsimp only
                  refine ⟨?_, ?_, ?_, ?_, ?_⟩
                  · simp (maxSteps:=1000000)(dsimp:=false)(disch:=omega) only [go_sem, Φa, hP, h11_2, h11_3, h11_56]
                    first | done | (refine congrArg Value.bool ?_; simp_all; done) | (refine congrArg Value.bool ?_; simp_all; omega)
                  · simp (maxSteps:=1000000)(dsimp:=false)(disch:=omega) only [go_sem, Φa, hP, h11_2, h11_3, h11_56]
                  · simp (maxSteps:=1000000)(dsimp:=false)(disch:=omega) only [go_sem, Φa, hP, h11_2, h11_3, h11_56]
                  · rfl
                  · trivial
              · intro ss T12 L12 hI
                simp only [h11_2, h11_3] at hI 
                obtain ⟨h12_63, h12_2, h12_3, hL12, hinv⟩ := hI
                replace hL12 := hL12.symm
                subst hL12
                clear h11_2 h11_3 h11_56 T11
                refine RX.live [2, 3, 63] (fun T13 hT13 => ?_)
                simp only [forall_mem_cons', forall_mem_nil', go_sem, Φa, hP, h12_63, h12_2, h12_3] at hT13
                obtain ⟨h13_2, h13_3, h13_63⟩ := hT13
                clear h12_63 h12_2 h12_3 T12
                refine RX.join 9 (fun (ss : Unit) T L' => T 72 = .bool (decide (a.V = b.V) && decide (a.I = b.I) && decide (a.PC = b.PC) && decide (a.dl = b.dl) && decide (a.sd = b.sd) && decide (txt a.pg = txt b.pg)) ∧ T 2 = T13 2 ∧ T 3 = T13 3 ∧ L' = some (g1, .cells (b.cells (.slice Bs b.st.length ds) (.slice Bp b.pg.length dp) (.slice Bm b.mm.length dm)).toArray 29 (0, 0)) :: some (g0, .cells (a.cells (.slice As a.st.length cs) (.slice Ap a.pg.length cp) (.slice Am a.mm.length cm)).toArray 29 (0, 0)) :: L ∧ (True)) (fun K21 hK21 => ?_) ?_
                · simp only [h13_2, h13_3] at hK21
                  simp (maxSteps:=1000000)(dsimp:=false)(disch:=omega) only [go_sem, Φa, hP, h13_2, h13_3, h13_63, hops]
                  repeat' (first | refine iteB (fun hg => ?_) (fun hg => ?_) | refine iteI (fun hg => ?_) (fun hg => ?_) | ((first | (refine aggEq_of eqT_25 (okV_V ha) (okV_V hb) (fun r hr => ?_); obtain rfl := vEq ha.V hb.V hr) | refine cv_row (hP ▸ Try.underlying23) (hP ▸ Try.underlying9) (hP ▸ Try.underlying5) (SlI.cons _ (SlI.cons _ hp)) ha.pg ?_ | refine conv_row (hP ▸ Try.underlying23) (hP ▸ Try.underlying9) (hP ▸ Try.underlying5) (SlI.cons _ (SlI.cons _ hp)) ha.pg ?_ | refine cv_row (hP ▸ Try.underlying23) (hP ▸ Try.underlying9) (hP ▸ Try.underlying5) (SlI.cons _ (SlI.cons _ kp)) hb.pg ?_ | refine conv_row (hP ▸ Try.underlying23) (hP ▸ Try.underlying9) (hP ▸ Try.underlying5) (SlI.cons _ (SlI.cons _ kp)) hb.pg ?_ | refine cv_row (hP ▸ Try.underlying23) (hP ▸ Try.underlying9) (hP ▸ Try.underlying5) (SlI.cons _ (SlI.cons _ hm)) ha.mm ?_ | refine conv_row (hP ▸ Try.underlying23) (hP ▸ Try.underlying9) (hP ▸ Try.underlying5) (SlI.cons _ (SlI.cons _ hm)) ha.mm ?_ | refine cv_row (hP ▸ Try.underlying23) (hP ▸ Try.underlying9) (hP ▸ Try.underlying5) (SlI.cons _ (SlI.cons _ km)) hb.mm ?_ | refine conv_row (hP ▸ Try.underlying23) (hP ▸ Try.underlying9) (hP ▸ Try.underlying5) (SlI.cons _ (SlI.cons _ km)) hb.mm ?_ | refine And.intro (by omega) ?_ | refine ⟨_, Cell.at 0 rfl rfl, ?_⟩ | refine ⟨_, Cell.at 1 rfl rfl, ?_⟩ | fail); try (with_reducible refine stI ?_); try simp (maxSteps:=1000000)(dsimp:=false)(disch:=omega) only [go_sem, Φa, hP, h13_2, h13_3, h13_63, hops]) | simp (maxSteps:=1000000)(dsimp:=false)(disch:=omega) only [go_sem, Φa, hP, h13_2, h13_3, h13_63, hops] | fail)
                  all_goals
                    refine hK21 () _ (some (g1, .cells (b.cells (.slice Bs b.st.length ds) (.slice Bp b.pg.length dp) (.slice Bm b.mm.length dm)).toArray 29 (0, 0)) :: some (g0, .cells (a.cells (.slice As a.st.length cs) (.slice Ap a.pg.length cp) (.slice Am a.mm.length cm)).toArray 29 (0, 0)) :: L) _ (by first | exact Less.refl _ | exact Less.drop _ _ | exact Less.drops (Less.drop _ _) | exact Less.drops (Less.drops (Less.drop _ _)) | exact Less.drops (Less.drops (Less.drops (Less.drop _ _))) | exact Less.drops (Less.drops (Less.drops (Less.drops (Less.drop _ _))))) ?_
                    try dsimp only
                    refine ⟨?_, ?_, ?_, ?_, ?_⟩
                    · simp (maxSteps:=1000000)(dsimp:=false)(disch:=omega) only [go_sem, Φa, hP, h13_2, h13_3, h13_63]
                      first | done | (refine congrArg Value.bool ?_; simp_all; done) | (refine congrArg Value.bool ?_; simp_all; omega)
                    · simp (maxSteps:=1000000)(dsimp:=false)(disch:=omega) only [go_sem, Φa, hP, h13_2, h13_3, h13_63]
                    · simp (maxSteps:=1000000)(dsimp:=false)(disch:=omega) only [go_sem, Φa, hP, h13_2, h13_3, h13_63]
                    · rfl
                    · trivial
                · intro ss T14 L14 hI
                  simp only [h13_2, h13_3] at hI 
                  obtain ⟨h14_72, h14_2, h14_3, hL14, hinv⟩ := hI
                  replace hL14 := hL14.symm
                  subst hL14
                  clear h13_2 h13_3 h13_63 T13
                  refine RX.live [2, 3, 72] (fun T15 hT15 => ?_)
                  simp only [forall_mem_cons', forall_mem_nil', go_sem, Φa, hP, h14_72, h14_2, h14_3] at hT15
                  obtain ⟨h15_2, h15_3, h15_72⟩ := hT15
                  clear h14_72 h14_2 h14_3 T14
                  refine RX.join 9 (fun (ss : Unit) T L' => T 81 = .bool (decide (a.V = b.V) && decide (a.I = b.I) && decide (a.PC = b.PC) && decide (a.dl = b.dl) && decide (a.sd = b.sd) && decide (txt a.pg = txt b.pg) && decide (txt a.mm = txt b.mm)) ∧ L' = some (g1, .cells (b.cells (.slice Bs b.st.length ds) (.slice Bp b.pg.length dp) (.slice Bm b.mm.length dm)).toArray 29 (0, 0)) :: some (g0, .cells (a.cells (.slice As a.st.length cs) (.slice Ap a.pg.length cp) (.slice Am a.mm.length cm)).toArray 29 (0, 0)) :: L ∧ (True)) (fun K22 hK22 => ?_) ?_
                  · simp (maxSteps:=1000000)(dsimp:=false)(disch:=omega) only [go_sem, Φa, hP, h15_2, h15_3, h15_72, hops]
                    repeat' (first | refine iteB (fun hg => ?_) (fun hg => ?_) | refine iteI (fun hg => ?_) (fun hg => ?_) | ((first | (refine aggEq_of eqT_25 (okV_V ha) (okV_V hb) (fun r hr => ?_); obtain rfl := vEq ha.V hb.V hr) | refine cv_row (hP ▸ Try.underlying23) (hP ▸ Try.underlying9) (hP ▸ Try.underlying5) (SlI.cons _ (SlI.cons _ hp)) ha.pg ?_ | refine conv_row (hP ▸ Try.underlying23) (hP ▸ Try.underlying9) (hP ▸ Try.underlying5) (SlI.cons _ (SlI.cons _ hp)) ha.pg ?_ | refine cv_row (hP ▸ Try.underlying23) (hP ▸ Try.underlying9) (hP ▸ Try.underlying5) (SlI.cons _ (SlI.cons _ kp)) hb.pg ?_ | refine conv_row (hP ▸ Try.underlying23) (hP ▸ Try.underlying9) (hP ▸ Try.underlying5) (SlI.cons _ (SlI.cons _ kp)) hb.pg ?_ | refine cv_row (hP ▸ Try.underlying23) (hP ▸ Try.underlying9) (hP ▸ Try.underlying5) (SlI.cons _ (SlI.cons _ hm)) ha.mm ?_ | refine conv_row (hP ▸ Try.underlying23) (hP ▸ Try.underlying9) (hP ▸ Try.underlying5) (SlI.cons _ (SlI.cons _ hm)) ha.mm ?_ | refine cv_row (hP ▸ Try.underlying23) (hP ▸ Try.underlying9) (hP ▸ Try.underlying5) (SlI.cons _ (SlI.cons _ km)) hb.mm ?_ | refine conv_row (hP ▸ Try.underlying23) (hP ▸ Try.underlying9) (hP ▸ Try.underlying5) (SlI.cons _ (SlI.cons _ km)) hb.mm ?_ | refine And.intro (by omega) ?_ | refine ⟨_, Cell.at 0 rfl rfl, ?_⟩ | refine ⟨_, Cell.at 1 rfl rfl, ?_⟩ | fail); try (with_reducible refine stI ?_); try simp (maxSteps:=1000000)(dsimp:=false)(disch:=omega) only [go_sem, Φa, hP, h15_2, h15_3, h15_72, hops]) | simp (maxSteps:=1000000)(dsimp:=false)(disch:=omega) only [go_sem, Φa, hP, h15_2, h15_3, h15_72, hops] | fail)
                    all_goals
                      refine hK22 () _ (some (g1, .cells (b.cells (.slice Bs b.st.length ds) (.slice Bp b.pg.length dp) (.slice Bm b.mm.length dm)).toArray 29 (0, 0)) :: some (g0, .cells (a.cells (.slice As a.st.length cs) (.slice Ap a.pg.length cp) (.slice Am a.mm.length cm)).toArray 29 (0, 0)) :: L) _ (by first | exact Less.refl _ | exact Less.drop _ _ | exact Less.drops (Less.drop _ _) | exact Less.drops (Less.drops (Less.drop _ _)) | exact Less.drops (Less.drops (Less.drops (Less.drop _ _))) | exact Less.drops (Less.drops (Less.drops (Less.drops (Less.drop _ _))))) ?_
                      try dsimp only
                      refine ⟨?_, ?_, ?_⟩
                      · simp (maxSteps:=1000000)(dsimp:=false)(disch:=omega) only [go_sem, Φa, hP, h15_2, h15_3, h15_72]
                        first | done | (refine congrArg Value.bool ?_; simp_all; done) | (refine congrArg Value.bool ?_; simp_all; omega)
                      · rfl
                      · trivial
                  · intro ss T16 L16 hI
                    obtain ⟨h16_81, hL16, hinv⟩ := hI
                    replace hL16 := hL16.symm
                    subst hL16
                    clear h15_2 h15_3 h15_72 T15
                    refine RX.done ?_
                    simp (maxSteps:=1000000)(dsimp:=false)(disch:=omega) only [go_sem, Φa, hP, h16_81, hops]
                    refine hK16 _ _ ?_
                    try clear hK16 K16
                    refine SX.ret ?_
                    simp only [andThen_normal, andThen_ret, andThen_exit, inBlk_normal, inBlk_ret, inBlk_exit, Nat.reduceEqDiff, if_true, if_false, ↓reduceIte, retQ_ret]
                    try simp only [res0, res1, res2, res3, stK_e, go_sem, Φa, hP, h16_81]
                    refine ⟨_, _, Less.drops (Less.drop _ _), rfl, ?_, rfl⟩
                    have hst : a.st = b.st := st_eq (by omega) (fun j hj => hin j (by omega))
                    unfold sameB
                    simp only [txtEq ha.pg hb.pg, txtEq ha.mm hb.mm, hst, decide_true, Bool.true_and]

end Go.Proofs.Ytgioegdjeodpiaa
set_option linter.unusedVariables false
set_option linter.unusedSimpArgs false
namespace Go.Proofs.Ytgioegdjeodpiaa
open Go.RowKit Go.SX
def dotD (b : Int) (d : Nat) : Bool := !decide (bits .and .u8 b ((128 : Int).fdiv (2 ^ (min d 8))) = 0)
def hit (page : List Int) (x y : Nat) (rows : List Int) (k d : Nat) : Bool :=
  dotD (rows.getD k 0) d && decide (x % 64 + d < 64) && decide (y % 32 + k < 32) && dotD (page.getD (8 * (y % 32 + k) + (x % 64 + d) / 8) 0) ((x % 64 + d) % 8)
def went (page : List Int) (x y : Nat) (rows : List Int) : Bool := (List.range rows.length).any fun k => (List.range 8).any fun d => hit page x y rows k d
/-! ### The dots of a page -/
theorem dotD_all : ((List.range 256).all fun b => (List.range 8).all fun k => dotD ((b : Nat) : Int) k == b.testBit (7 - k) && (dotB ((b : Nat) : Int) k == b.testBit (7 - k))) = true := by kernel_rfl
theorem dotD_test {b k : Nat} (hb : b < 256) (hk : k < 8) : dotD (b : Int) k = b.testBit (7 - k) ∧ dotB (b : Int) k = b.testBit (7 - k) := by
  have h1 := List.all_eq_true.1 dotD_all b (List.mem_range.2 hb)
  have h2 := List.all_eq_true.1 h1 k (List.mem_range.2 hk)
  simpa using h2
theorem bitOf_all : ((List.range 8).all fun k => decide ((128 : Int).fdiv (2 ^ (min k 8)) = ((2 ^ (7 - k) : Nat) : Int))) = true := by kernel_rfl
theorem bitOf_pow (i : Nat) : bitOf i = ((2 ^ (7 - i % 8) : Nat) : Int) :=
  of_decide_eq_true (List.all_eq_true.1 bitOf_all (i % 8) (List.mem_range.2 (by omega)))
def ByteN (l : List Int) : Prop := ∀ x ∈ l, ∃ b : Nat, b < 256 ∧ x = (b : Int)
theorem Byte.toN {l : List Int} (h : Byte l) : ByteN l := fun x hx => ⟨x.toNat, by have := h x hx; omega, by have := h x hx; omega⟩
theorem ByteN.at {l : List Int} (h : ByteN l) (k : Nat) : ∃ b : Nat, b < 256 ∧ l.getD k 0 = (b : Int) := by
  by_cases hk : k < l.length
  · rw [List.getD_eq_getElem?_getD, List.getElem?_eq_getElem hk]
    exact h _ (List.getElem_mem hk)
  · rw [List.getD_eq_getElem?_getD, List.getElem?_eq_none (by omega)]
    exact ⟨0, by omega, rfl⟩
def pix (page : List Int) (i j : Nat) : Bool := dotD (page.getD (8 * j + i / 8) 0) (i % 8)
theorem xor_byte {b i : Nat} (hb : b < 256) : ∃ c : Nat, c < 256 ∧ bits .xor .u8 (b : Int) (bitOf i) = (c : Int) ∧ ∀ d, d < 8 → dotD (c : Int) d = (dotD (b : Int) d != decide (d = i % 8)) := by
  have hp : 2 ^ (7 - i % 8) < 256 := by
    have : 2 ^ (7 - i % 8) < 2 ^ 8 := Nat.pow_lt_pow_right (by omega) (by omega)
    omega
  have hc : b ^^^ 2 ^ (7 - i % 8) < 256 := Nat.xor_lt_two_pow (n := 8) hb hp
  refine ⟨b ^^^ 2 ^ (7 - i % 8), hc, by rw [bitOf_pow, u8_xor_nat _ _ hb hp], fun d hd => ?_⟩
  rw [(dotD_test hc hd).1, (dotD_test hb hd).1, Nat.testBit_xor, Nat.testBit_two_pow]
  have : decide (7 - i % 8 = 7 - d) = decide (d = i % 8) := decide_eq_decide.2 (by omega)
  rw [this]
theorem getD_set' (l : List Int) (j k : Nat) (x : Int) (hj : j < l.length) : (l.set j x).getD k 0 = if j = k then x else l.getD k 0 := by
  simp only [List.getD_eq_getElem?_getD, List.getElem?_set]
  split
  · rename_i h; subst h; simp [hj]
  · rfl
structure Good (l : List Int) : Prop where
  len : l.length = 256
  byte : ByteN l
theorem putDot_good {st : Bool × List Int} (h : Good st.2) (i j : Nat) : Good (putDot st i j).2 := by
  refine ⟨by rw [putDot_length]; exact h.len, ?_⟩
  unfold putDot
  split
  · exact h.byte
  · intro x hx
    rcases List.mem_or_eq_of_mem_set hx with hx | rfl
    · exact h.byte x hx
    · obtain ⟨b, hb, e⟩ := h.byte.at (j * 8 + i / 8)
      obtain ⟨c, hc, e2, _⟩ := xor_byte (i := i) hb
      exact ⟨c, hc, by rw [e, e2]⟩
theorem putDot_pix {st : Bool × List Int} (h : Good st.2) {i j i' j' : Nat} (hi : i' < 64) (hj : j' < 32) : pix (putDot st i j).2 i' j' = (pix st.2 i' j' != decide (i = i' ∧ j = j')) := by
  unfold putDot
  split
  · rw [decide_eq_false (by omega), Bool.bne_false]
  · rename_i hn
    have hl := h.len
    unfold pix
    rw [getD_set' _ _ _ _ (by omega)]
    split
    · rename_i he
      obtain ⟨b, hb, e⟩ := h.byte.at (j * 8 + i / 8)
      obtain ⟨c, hc, e2, e3⟩ := xor_byte (i := i) hb
      rw [e, e2, e3 _ (by omega), ← he, e]
      exact congrArg _ (decide_eq_decide.2 (by omega))
    · rename_i he
      rw [decide_eq_false (fun hc => he (by omega)), Bool.bne_false]
theorem putDot_gone (st : Bool × List Int) (i j : Nat) : (putDot st i j).1 = (st.1 || (decide (i < 64 ∧ j < 32) && pix st.2 i j)) := by
  unfold putDot
  split
  · rw [decide_eq_false (by omega), Bool.false_and, Bool.or_false]
  · rw [show decide (i < 64 ∧ j < 32) = true from decide_eq_true (by omega), Bool.true_and]
    show (st.1 || dotD (st.2.getD (j * 8 + i / 8) 0) (i % 8)) = _
    rw [pix, Nat.mul_comm 8 j]
theorem eachI_good {b : Int} {x y : Nat} {st : Bool × List Int} (h : Good st.2) : ∀ m, Good (eachI b x y st m).2
  | 0 => h
  | m + 1 => by
    rw [eachI]
    split
    · exact putDot_good (eachI_good h m) _ _
    · exact eachI_good h m
theorem eachI_pix {b : Int} {x y : Nat} {st : Bool × List Int} (h : Good st.2) {i' j' : Nat} (hi : i' < 64) (hj : j' < 32) : ∀ m, pix (eachI b x y st m).2 i' j' = (pix st.2 i' j' != (decide (y = j' ∧ x ≤ i' ∧ i' < x + m) && dotB b (i' - x)))
  | 0 => by rw [decide_eq_false (by omega), Bool.false_and, Bool.bne_false]; rfl
  | m + 1 => by
    have ih := eachI_pix (b := b) (x := x) (y := y) h hi hj m
    rw [eachI]
    by_cases hc : x + m = i' ∧ y = j'
    · have e1 : i' - x = m := by omega
      have e2 : decide (y = j' ∧ x ≤ i' ∧ i' < x + m) = false := decide_eq_false (by omega)
      have e3 : decide (y = j' ∧ x ≤ i' ∧ i' < x + (m + 1)) = true := decide_eq_true (by omega)
      rw [e2, Bool.false_and, Bool.bne_false] at ih
      rw [e3, Bool.true_and, e1]
      split
      · rename_i hd
        rw [putDot_pix (eachI_good h m) hi hj, ih, decide_eq_true hc, hd]
      · rename_i hd
        rw [ih, Bool.eq_false_iff.2 hd, Bool.bne_false]
    · have e2 : decide (y = j' ∧ x ≤ i' ∧ i' < x + (m + 1)) = decide (y = j' ∧ x ≤ i' ∧ i' < x + m) := decide_eq_decide.2 (by omega)
      rw [e2, ← ih]
      split
      · rw [putDot_pix (eachI_good h m) hi hj, decide_eq_false hc, Bool.bne_false]
      · rfl
theorem eachI_gone {b : Int} {x y : Nat} {st : Bool × List Int} (h : Good st.2) : ∀ m, (eachI b x y st m).1 = (st.1 || (List.range m).any fun d => dotB b d && (decide (x + d < 64 ∧ y < 32) && pix st.2 (x + d) y))
  | 0 => by simp [eachI]
  | m + 1 => by
    rw [eachI, List.range_succ, List.any_append, ← Bool.or_assoc, ← eachI_gone h m]
    simp only [List.any_cons, List.any_nil, Bool.or_false]
    split
    · rename_i hd
      rw [putDot_gone, hd, Bool.true_and]
      by_cases hin : x + m < 64 ∧ y < 32
      · rw [eachI_pix h hin.1 hin.2, decide_eq_false (show ¬ (y = y ∧ x ≤ x + m ∧ x + m < x + m) by omega), Bool.false_and, Bool.bne_false]
      · rw [decide_eq_false hin, Bool.false_and, Bool.false_and]
    · rename_i hd
      rw [Bool.eq_false_iff.2 hd, Bool.false_and, Bool.or_false]
theorem eachK_good {rows : List Int} {x y : Nat} {st : Bool × List Int} (h : Good st.2) : ∀ k, Good (eachK rows x y st k).2
  | 0 => h
  | k + 1 => by rw [eachK]; exact eachI_good (eachK_good h k) 8
theorem eachK_pix {rows : List Int} {x y : Nat} {st : Bool × List Int} (h : Good st.2) {i' j' : Nat} (hi : i' < 64) (hj : j' < 32) : ∀ k, pix (eachK rows x y st k).2 i' j' = (pix st.2 i' j' != (decide (y ≤ j' ∧ j' < y + k ∧ x ≤ i' ∧ i' < x + 8) && dotB (rows.getD (j' - y) 0) (i' - x)))
  | 0 => by rw [decide_eq_false (by omega), Bool.false_and, Bool.bne_false]; rfl
  | k + 1 => by
    rw [eachK, eachI_pix (eachK_good h k) hi hj, eachK_pix h hi hj k]
    by_cases hc : y + k = j'
    · rw [decide_eq_false (show ¬ (y ≤ j' ∧ j' < y + k ∧ x ≤ i' ∧ i' < x + 8) by omega), Bool.false_and, Bool.bne_false, show j' - y = k by omega]
      refine congrArg _ (congrArg (· && _) (decide_eq_decide.2 (by omega)))
    · rw [decide_eq_false (show ¬ (y + k = j' ∧ x ≤ i' ∧ i' < x + 8) by omega), Bool.false_and, Bool.bne_false]
      refine congrArg _ (congrArg (· && _) (decide_eq_decide.2 (by omega)))
theorem eachK_gone {rows : List Int} {x y : Nat} {st : Bool × List Int} (h : Good st.2) : ∀ k, (eachK rows x y st k).1 = (st.1 || (List.range k).any fun k => (List.range 8).any fun d => dotB (rows.getD k 0) d && (decide (x + d < 64 ∧ y + k < 32) && pix st.2 (x + d) (y + k)))
  | 0 => by simp [eachK]
  | k + 1 => by
    rw [eachK, List.range_succ, List.any_append, ← Bool.or_assoc, ← eachK_gone h k, eachI_gone (eachK_good h k)]
    simp only [List.any_cons, List.any_nil, Bool.or_false]
    refine congrArg _ (List.any_congr rfl fun d => ?_) 
    by_cases hin : x + d < 64 ∧ y + k < 32
    · rw [eachK_pix h hin.1 hin.2, decide_eq_false (show ¬ (y ≤ y + k ∧ y + k < y + k ∧ x ≤ x + d ∧ x + d < x + 8) by omega), Bool.false_and, Bool.bne_false]
    · rw [decide_eq_false hin, Bool.false_and, Bool.false_and]
theorem page_ext {a b : List Int} (ha : Good a) (hb : Good b) (h : ∀ i j, i < 64 → j < 32 → pix a i j = pix b i j) : a = b := by
  refine list_eq_of (by rw [ha.len, hb.len]) fun k hk => ?_
  rw [ha.len] at hk
  rw [getD_some (by rw [ha.len]; exact hk), getD_some (by rw [hb.len]; exact hk)]
  obtain ⟨p, hp, e1⟩ := ha.byte.at k
  obtain ⟨q, hq, e2⟩ := hb.byte.at k
  rw [e1, e2]
  refine congrArg some (congrArg Nat.cast ?_)
  apply Nat.eq_of_testBit_eq
  intro i
  by_cases hi : i < 8
  · have h1 := h (k % 8 * 8 + (7 - i)) (k / 8) (by omega) (by omega)
    unfold pix at h1
    rw [show 8 * (k / 8) + (k % 8 * 8 + (7 - i)) / 8 = k by omega, show (k % 8 * 8 + (7 - i)) % 8 = 7 - i by omega, e1, e2, (dotD_test hp (by omega)).1, (dotD_test hq (by omega)).1, show 7 - (7 - i) = i by omega] at h1
    exact h1
  · have h256 : 256 ≤ 2 ^ i := by
      have := Nat.pow_le_pow_right (n := 2) (by omega) (show 8 ≤ i by omega)
      omega
    rw [Nat.testBit_lt_two_pow (by omega), Nat.testBit_lt_two_pow (by omega)]
def mine (x y : Nat) (rows : List Int) (i j : Nat) : Bool := decide (y % 32 ≤ j ∧ j < y % 32 + rows.length ∧ x % 64 ≤ i ∧ i < x % 64 + 8) && dotB (rows.getD (j - y % 32) 0) (i - x % 64)
theorem drawn_good {page rows : List Int} {x y : Nat} (h : Good page) : Good (drawn page x y rows).2 := eachK_good (st := (false, page)) h _
theorem drawn_pix {page rows : List Int} {x y : Nat} (h : Good page) {i j : Nat} (hi : i < 64) (hj : j < 32) : pix (drawn page x y rows).2 i j = (pix page i j != mine x y rows i j) := eachK_pix (st := (false, page)) h hi hj _
theorem drawn_back {page ra : List Int} {xa ya : Nat} (h : Good page) : (drawn (drawn page xa ya ra).2 xa ya ra).2 = page := by
  refine page_ext (drawn_good (drawn_good h)) h fun i j hi hj => ?_
  rw [drawn_pix (drawn_good h) hi hj, drawn_pix h hi hj]
  cases pix page i j <;> cases mine xa ya ra i j <;> rfl
end Go.Proofs.Ytgioegdjeodpiaa
set_option linter.unusedVariables false
set_option linter.unusedSimpArgs false
namespace Go.Proofs.Ytgioegdjeodpiaa
open Go.RowKit Go.SX
/-! What a step makes of a game may be again. -/
/-- A game that may be. -/
structure Fine (g : GM) : Prop where
  ok : OkG g
  pg : g.pg.length = 256
  mm : g.mm.length = 3232
  st : g.st.length ≤ 12
theorem Fine.check {g : GM} (h : Fine g) : checkE g = 0 := if_pos ⟨h.pg, h.mm, h.st⟩
theorem fine_of {g : GM} (h : OkG g) (hc : checkE g = 0) : Fine g := by
  unfold checkE at hc
  split at hc
  · rename_i h1; exact ⟨h, h1.1, h1.2.1, h1.2.2⟩
  · cases hc
theorem byte_rep (n : Nat) : Byte (List.replicate n 0) := fun x hx => by rw [List.eq_of_mem_replicate hx]; omega
theorem byte_app {l m : List Int} (h : Byte l) (k : Byte m) : Byte (l ++ m) := fun x hx => by
  rcases List.mem_append.1 hx with h1 | h1
  · exact h x h1
  · exact k x h1
theorem byte_take {l : List Int} (h : Byte l) (n : Nat) : Byte (l.take n) := fun x hx => h x (List.mem_of_mem_take hx)
theorem wd_take {l : List Int} (h : Wd l) (n : Nat) : Wd (l.take n) := fun x hx => h x (List.mem_of_mem_take hx)
theorem newG_fine {p : List Int} (h : Byte p) (hl : p.length ≤ 3232) : Fine (newG p).1 ∧ (newG p).2 = 0 := by
  unfold newG
  rw [if_neg (by omega)]
  have i0 : ∀ (a b c : Int), a ≤ b → b ≤ c → a ≤ b ∧ b ≤ c := fun a b c h1 h2 => ⟨h1, h2⟩
  refine ⟨⟨⟨rfl, byte_rep 16, i0 0 0 65535 (by decide) (by decide), i0 0 512 65535 (by decide) (by decide), fun x hx => (by simp at hx), i0 0 0 255 (by decide) (by decide), i0 0 0 255 (by decide) (by decide), byte_rep 256, byte_app h (byte_rep _)⟩, List.length_replicate .., ?_, Nat.zero_le _⟩, rfl⟩
  show (p ++ List.replicate (3232 - p.length) 0).length = 3232
  rw [List.length_append, List.length_replicate]
  omega
theorem wrap8 (x : Int) : 0 ≤ IntKind.u8.wrap x ∧ IntKind.u8.wrap x ≤ 255 := by rw [IntKind.wrap_u8]; omega
theorem wrap16 (x : Int) : 0 ≤ IntKind.u16.wrap x ∧ IntKind.u16.wrap x ≤ 65535 := by rw [IntKind.wrap_u16]; omega
theorem Fine.V {g : GM} (h : Fine g) {l : List Int} (hl : l.length = 16) (hb : Byte l) : Fine { g with V := l } := ⟨⟨hl, hb, h.ok.I, h.ok.PC, h.ok.st, h.ok.dl, h.ok.sd, h.ok.pg, h.ok.mm⟩, h.pg, h.mm, h.st⟩
theorem Fine.PC {g : GM} (h : Fine g) {x : Int} (hx : 0 ≤ x ∧ x ≤ 65535) : Fine { g with PC := x } := ⟨⟨h.ok.V, h.ok.Vb, h.ok.I, hx, h.ok.st, h.ok.dl, h.ok.sd, h.ok.pg, h.ok.mm⟩, h.pg, h.mm, h.st⟩
theorem Fine.I {g : GM} (h : Fine g) {x : Int} (hx : 0 ≤ x ∧ x ≤ 65535) : Fine { g with I := x } := ⟨⟨h.ok.V, h.ok.Vb, hx, h.ok.PC, h.ok.st, h.ok.dl, h.ok.sd, h.ok.pg, h.ok.mm⟩, h.pg, h.mm, h.st⟩
theorem Fine.skip {g : GM} (h : Fine g) (b : Bool) : Fine (skipG g b).2 := by
  unfold skipG
  dsimp only
  split
  · exact h.PC (wrap16 _)
  · exact h
theorem Fine.let_ {g : GM} (h : Fine g) (o : Ord) {b : Int} (hb : 0 ≤ b ∧ b ≤ 255) : Fine (letG g o b).2 := h.V (by rw [List.length_set]; exact h.ok.V) (byte_set h.ok.Vb hb)
theorem Fine.flag {g : GM} (h : Fine g) (o : Ord) {b c : Int} (hb : 0 ≤ b ∧ b ≤ 255) (hc : 0 ≤ c ∧ c ≤ 255) : Fine (flagG g o b c).2 := h.V (by rw [List.length_set, List.length_set]; exact h.ok.V) (byte_set (byte_set h.ok.Vb hb) hc)
theorem bits8 (op : BinOp) (a b : Int) : 0 ≤ bits op .u8 a b ∧ bits op .u8 a b ≤ 255 := ⟨bits_lo_u8 op a b, bits_hi_u8 op a b⟩
theorem truthI_in (b : Bool) : 0 ≤ truthI b ∧ truthI b ≤ 255 := by cases b <;> decide
theorem Good.toByte {l : List Int} (h : Good l) : Byte l := fun x hx => by obtain ⟨b, hb, rfl⟩ := h.byte x hx; omega
theorem Fine.good {g : GM} (h : Fine g) : Good g.pg := ⟨h.pg, Byte.toN h.ok.pg⟩
theorem Fine.lay {g g' : GM} {bs : List Int} (h : Fine g) (hb : Byte bs) (hg : layG g bs = some g') : Fine g' := by
  unfold layG at hg
  split at hg
  · rename_i hi
    cases hg
    have hm := h.mm
    exact ⟨⟨h.ok.V, h.ok.Vb, h.ok.I, h.ok.PC, h.ok.st, h.ok.dl, h.ok.sd, h.ok.pg, spliceL_byte h.ok.mm hb⟩, h.pg, (spliceL_length (by omega)).trans hm, h.st⟩
  · cases hg
theorem Fine.do_ {g : GM} {o : Ord} {f : Fnt} {d : Feed} (h : Fine g) (ho : DecO o) (hf : OkF f) (hd : OkD d) : Fine (doG g o f d).2 := by
  have hx := byte_at h.ok.Vb o.x
  have hy := byte_at h.ok.Vb o.y
  have hb : (0 : Int) ≤ (o.b : Int) ∧ (o.b : Int) ≤ 255 := by have := ho.b; omega
  have ha : (0 : Int) ≤ (o.a : Int) ∧ (o.a : Int) ≤ 65535 := by have := ho.a; omega
  unfold doG
  split
  · exact ⟨⟨h.ok.V, h.ok.Vb, h.ok.I, h.ok.PC, h.ok.st, h.ok.dl, h.ok.sd, byte_rep 256, h.ok.mm⟩, List.length_replicate .., h.mm, h.st⟩
  · unfold backG
    split
    · exact h
    · exact ⟨⟨h.ok.V, h.ok.Vb, h.ok.I, word_at h.ok.st _, wd_take h.ok.st _, h.ok.dl, h.ok.sd, h.ok.pg, h.ok.mm⟩, h.pg, h.mm, Nat.le_trans (List.length_take_le' _ _) h.st⟩
  · exact h.PC ha
  · unfold callG
    split
    · exact h
    · rename_i hn
      have := h.st
      exact ⟨⟨h.ok.V, h.ok.Vb, h.ok.I, ha, wd_app h.ok.st h.ok.PC, h.ok.dl, h.ok.sd, h.ok.pg, h.ok.mm⟩, h.pg, h.mm, by rw [List.length_append]; simp only [List.length_cons, List.length_nil]; omega⟩
  · exact h.skip _
  · exact h.skip _
  · exact h.skip _
  · exact h.let_ o hb
  · exact h.let_ o (wrap8 _)
  · exact h.let_ o hy
  · exact h.flag o (bits8 _ _ _) (by decide)
  · exact h.flag o (bits8 _ _ _) (by decide)
  · exact h.flag o (wrap8 _) (truthI_in _)
  · exact h.flag o (wrap8 _) (truthI_in _)
  · exact h.skip _
  · exact h.I ha
  · exact h.PC (wrap16 _)
  · exact h.let_ o (bits8 _ _ _)
  · unfold drawG
    split
    · exact h
    · rename_i rows hr
      have hg : Good (drawn g.pg (vG g o.x).toNat (vG g o.y).toNat rows).2 := drawn_good h.good
      exact ⟨⟨by rw [List.length_set]; exact h.ok.V, byte_set h.ok.Vb (truthI_in _), h.ok.I, h.ok.PC, h.ok.st, h.ok.dl, h.ok.sd, hg.toByte, h.ok.mm⟩, hg.len, h.mm, h.st⟩
  · exact h.skip _
  · exact h.skip _
  · exact h.let_ o h.ok.dl
  · unfold keyG
    split
    · exact h
    · exact h.let_ o (wrap8 _)
  · exact ⟨⟨h.ok.V, h.ok.Vb, h.ok.I, h.ok.PC, h.ok.st, hx, h.ok.sd, h.ok.pg, h.ok.mm⟩, h.pg, h.mm, h.st⟩
  · exact ⟨⟨h.ok.V, h.ok.Vb, h.ok.I, h.ok.PC, h.ok.st, h.ok.dl, hx, h.ok.pg, h.ok.mm⟩, h.pg, h.mm, h.st⟩
  · exact h.I (wrap16 _)
  · exact h.I (word_at hf.atb _)
  · unfold threeG
    split
    · rename_i g' hg
      have hb3 : Byte (threeL g o) := fun x hx' => by
        unfold threeL at hx'
        simp only [List.mem_cons, List.not_mem_nil, or_false] at hx'
        rcases hx' with rfl | rfl | rfl <;> omega
      exact h.lay hb3 hg
    · exact h
  · unfold storeG
    split
    · rename_i g' hg
      have hl := h.lay (byte_take h.ok.Vb _) hg
      exact hl.I (wrap16 _)
    · exact h
  · unfold fillG
    split
    · exact h
    · rename_i bs hr
      have hl := rowG_length hr
      have hx := ho.x
      have hb := rowG_byte h.ok.mm hf.bs hr
      refine Fine.I (h.V ?_ (spliceL_byte h.ok.Vb hb)) (wrap16 _)
      rw [spliceL_length (by rw [hl, h.ok.V]; omega)]
      exact h.ok.V
  · exact h
theorem Fine.step {g : GM} {f : Fnt} {d : Feed} (h : Fine g) (hf : OkF f) (hd : OkD d) (he : (stepG g f d).2.2 = 0) : Fine (stepG g f d).1 := by
  unfold stepG at he ⊢
  rw [if_neg (by rw [h.check]; simp)] at he ⊢
  split at he
  · cases he
  · rename_i h1
    rw [if_neg h1]
    split
    · exact h
    · rename_i h2
      dsimp only
      split
      · exact h
      · exact Fine.do_ (h.PC (wrap16 _)) (nextG_dec (by omega)).1 hf hd
theorem decB_in {x : Int} (h : 0 ≤ x ∧ x ≤ 255) : 0 ≤ decB x ∧ decB x ≤ 255 := by unfold decB; split <;> omega
theorem Fine.tick {g : GM} (h : Fine g) : Fine (tickG g) := by
  unfold tickG
  rw [if_neg (by rw [h.check]; simp)]
  exact ⟨⟨h.ok.V, h.ok.Vb, h.ok.I, h.ok.PC, h.ok.st, decB_in h.ok.dl, decB_in h.ok.sd, h.ok.pg, h.ok.mm⟩, h.pg, h.mm, h.st⟩
end Go.Proofs.Ytgioegdjeodpiaa
