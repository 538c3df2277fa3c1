/- A part of a proof: contracts and plain facts that it stands on. -/
import Derived.Test.YtgioegdjeodpiaaCC
import Derived.Laws.BitsLemmas
import Derived.Laws.BitsAllLaws
import Derived.Laws.Closers25b
set_option linter.unusedVariables false
set_option linter.unusedSimpArgs false
namespace Go.Proofs.Ytgioegdjeodpiaa
open Go.RowKit Go.SX
open Go.SX renaming ia_someH → Φa

def zeroG : GM := ⟨List.replicate 16 0, 0, 0, [], 0, 0, [], []⟩
/-- What Step tells: the game, the outcome, the error. -/
def stepG (g : GM) (f : Fnt) (d : Feed) : GM × Int × Int :=
  if checkE g ≠ 0 then (zeroG, 0, checkE g)
  else if 65536 < f.from_ + (f.bs.length : Int) ∨ 16 ≤ d.key then (zeroG, 0, 1)
  else if (nextG g).2 ≠ 1 then (g, (nextG g).2, 0)
  else let r := doG { g with PC := IntKind.u16.wrap (g.PC + 2) } (nextG g).1 f d
    if r.1 ≠ 1 then (g, r.1, 0) else (r.2, 1, 0)
theorem deed_at {k : Nat} (h2 : 2 ≤ k) (h31 : k ≤ 31) : Instr.findNow (.int .u8) (.int .u8 (k : Int)) deedT 0 = some (some (k - 2, .func (.func (45 + k)) #[] #[])) := by
  have h : k = 2 ∨ k = 3 ∨ k = 4 ∨ k = 5 ∨ k = 6 ∨ k = 7 ∨ k = 8 ∨ k = 9 ∨ k = 10 ∨ k = 11 ∨ k = 12 ∨ k = 13 ∨ k = 14 ∨ k = 15 ∨ k = 16 ∨ k = 17 ∨ k = 18 ∨ k = 19 ∨ k = 20 ∨ k = 21 ∨ k = 22 ∨ k = 23 ∨ k = 24 ∨ k = 25 ∨ k = 26 ∨ k = 27 ∨ k = 28 ∨ k = 29 ∨ k = 30 ∨ k = 31 := by omega
  rcases h with rfl | rfl | rfl | rfl | rfl | rfl | rfl | rfl | rfl | rfl | rfl | rfl | rfl | rfl | rfl | rfl | rfl | rfl | rfl | rfl | rfl | rfl | rfl | rfl | rfl | rfl | rfl | rfl | rfl | rfl <;> rfl
theorem deed_callable {k : Nat} (h2 : 2 ≤ k) (h31 : k ≤ 31) : callable Try.prog (45 + k) = true := by
  have h : k = 2 ∨ k = 3 ∨ k = 4 ∨ k = 5 ∨ k = 6 ∨ k = 7 ∨ k = 8 ∨ k = 9 ∨ k = 10 ∨ k = 11 ∨ k = 12 ∨ k = 13 ∨ k = 14 ∨ k = 15 ∨ k = 16 ∨ k = 17 ∨ k = 18 ∨ k = 19 ∨ k = 20 ∨ k = 21 ∨ k = 22 ∨ k = 23 ∨ k = 24 ∨ k = 25 ∨ k = 26 ∨ k = 27 ∨ k = 28 ∨ k = 29 ∨ k = 30 ∨ k = 31 := by omega
  rcases h with rfl | rfl | rfl | rfl | rfl | rfl | rfl | rfl | rfl | rfl | rfl | rfl | rfl | rfl | rfl | rfl | rfl | rfl | rfl | rfl | rfl | rfl | rfl | rfl | rfl | rfl | rfl | rfl | rfl | rfl
  · exact T.callable_47
  · exact T.callable_48
  · exact T.callable_49
  · exact T.callable_50
  · exact T.callable_51
  · exact T.callable_52
  · exact T.callable_53
  · exact T.callable_54
  · exact T.callable_55
  · exact T.callable_56
  · exact T.callable_57
  · exact T.callable_58
  · exact T.callable_59
  · exact T.callable_60
  · exact T.callable_61
  · exact T.callable_62
  · exact T.callable_63
  · exact T.callable_64
  · exact T.callable_65
  · exact T.callable_66
  · exact T.callable_67
  · exact T.callable_68
  · exact T.callable_69
  · exact T.callable_70
  · exact T.callable_71
  · exact T.callable_72
  · exact T.callable_73
  · exact T.callable_74
  · exact T.callable_75
  · exact T.callable_76
theorem fs_all : (table.all fun r => decide (r.fs = [] ∨ r.fs = [.a] ∨ r.fs = [.x, .b] ∨ r.fs = [.x, .y] ∨ r.fs = [.x, .y, .n] ∨ r.fs = [.x]) && decide (1 ≤ r.op) && decide (r.op ≤ 31)) = true := by kernel_rfl
/-- What an order that was read has. -/
structure DecO (o : Ord) : Prop where
  op1 : 1 ≤ o.op
  op2 : o.op ≤ 31
  x : o.x < 16
  y : o.y < 16
  n : o.n < 16
  b : o.b < 256
  a : o.a < 4096
theorem DecO.ok {o : Ord} (h : DecO o) : OkO o := ⟨by have := h.op2; omega, by have := h.x; omega, by have := h.y; omega, by have := h.n; omega, h.b, by have := h.a; omega⟩
theorem decO_op (w : Nat) (r : RowT) : (decO w r).op = r.op := by
  have : ∀ (l : List Fd) (o : Ord), (l.foldl (fun o f => f.into o (fieldIn w f)) o).op = o.op := by
    intro l
    induction l with
    | nil => intro o; rfl
    | cons f l ih => intro o; rw [List.foldl_cons, ih]; cases f <;> rfl
  exact this _ _
theorem decode_dec {w : Nat} {o : Ord} (h : decode w = some o) : DecO o := by
  unfold decode at h
  cases hr : rowOf w with
  | none => rw [hr] at h; cases h
  | some r =>
    rw [hr] at h
    cases h
    have hm : r ∈ table := List.mem_of_find?_eq_some hr
    have ht := List.all_eq_true.1 fs_all r hm
    simp only [Bool.and_eq_true, decide_eq_true_eq] at ht
    have h1 : (decO w r).op = r.op := decO_op w r
    have hx : fieldIn w .x < 16 := Nat.mod_lt _ (by decide)
    have hy : fieldIn w .y < 16 := Nat.mod_lt _ (by decide)
    have hn : fieldIn w .n < 16 := Nat.mod_lt _ (by decide)
    have hb : fieldIn w .b < 256 := Nat.mod_lt _ (by decide)
    have ha : fieldIn w .a < 4096 := Nat.mod_lt _ (by decide)
    refine ⟨by rw [h1]; exact ht.1.2, by rw [h1]; exact ht.2, ?_, ?_, ?_, ?_, ?_⟩ <;>
      (unfold decO decT; rw [List.take_length]; rcases ht.1.1 with h | h | h | h | h | h <;> rw [h] <;> simp only [List.foldl_cons, List.foldl_nil, Fd.into] <;> omega)
theorem nextG_dec {g : GM} (h : (nextG g).2 = 1) : DecO (nextG g).1 ∧ 2 ≤ (nextG g).1.op := by
  unfold nextG at h ⊢
  split at h
  · cases h
  · rename_i h1
    rw [if_neg h1]
    split at h
    · cases h
    · rename_i h2
      rw [if_neg h2]
      split at h
      · cases h
      · rename_i o ho
        have hd := decode_dec ho
        split at h
        · cases h
        · rename_i h3
          rw [if_neg h3]
          exact ⟨hd, by have := hd.op1; show 2 ≤ o.op; omega⟩
def stepR (r : GM × Int × Int) (L : Hp) (v : Value) (L' : Hp) : Prop := ∃ sv pv mv s1 s2 s3, v = .tuple #[.agg (r.1.cells sv pv mv).toArray, .int .u8 r.2.1, .int .i64 r.2.2] ∧ L' = s1 :: s2 :: s3 :: L ∧ Rows r.1 sv pv mv s1 s2 s3
set_option maxHeartbeats 1000000 in
set_option maxRecDepth 100000 in
theorem Step_spec {Γ : Ctx} (hP : Γ.P = Try.prog) {L : Hp} {g : GM} {sv pv mv : Value} {f : Fnt} {fv : Value} {d : Feed} (hg : OkG g) (hF : OkF f) (hd : OkD d) (hs : SlI .u16 (Cell Γ L) sv g.st) (hp : SlI .u8 (Cell Γ L) pv g.pg) (hm : SlI .u8 (Cell Γ L) mv g.mm) (hf : SlI .u8 (Cell Γ L) fv f.bs) (hsl : g.st.length ≤ 2147483647) (hpl : g.pg.length ≤ 2147483647) (hml : g.mm.length ≤ 2147483647) (hfl : f.bs.length ≤ 2147483647) :
    SCall Γ 25 #[(.agg (g.cells sv pv mv).toArray), (.agg (f.cells fv).toArray), (.agg d.cells.toArray)] L (stepR (stepG g f d) L) := by
  obtain ⟨As, cs, rfl, hcs⟩ := slShape hs
  obtain ⟨Ap, cp, rfl, hcp⟩ := slShape hp
  obtain ⟨Am, cm, rfl, hcm⟩ := slShape hm
  obtain ⟨Af, cf, rfl, hcf⟩ := slShape hf
  have hPCb := hg.PC
  have hfrb := hF.from_
  refine SCall.enter (n := 74) (resX Γ [.cell 6 29, .tmp 7, .tmp 8]) (hP ▸ Try.func25) rfl rfl (by simp) (resX_ok rfl) ?_
  refine SX.seq_k fun K1 hK1 => ?_
  refine SX.region_d [some 3, some 4, some 5, some 6, some 7, some 8] rfl (fun ops hops => ?_)
  unfold Dsts at hops
  simp (maxSteps:=1000000)(dsimp:=false)(disch:=omega) only [go_sem, Φa, hP, hops]
  intro b0
  try with_reducible refine stI ?_
  try simp (maxSteps:=1000000)(dsimp:=false)(disch:=omega) only [go_sem, Φa, hP, hops]
  intro b1
  try with_reducible refine stI ?_
  try simp (maxSteps:=1000000)(dsimp:=false)(disch:=omega) only [go_sem, Φa, hP, hops]
  intro b2
  try with_reducible refine stI ?_
  try simp (maxSteps:=1000000)(dsimp:=false)(disch:=omega) only [go_sem, Φa, hP, hops]
  intro b3
  try with_reducible refine stI ?_
  try simp (maxSteps:=1000000)(dsimp:=false)(disch:=omega) only [go_sem, Φa, hP, hops]
  refine hK1 _ _ ?_
  try clear hK1 K1
  refine SX.seq_k fun K2 hK2 => ?_
  refine SX.seq_k fun K3 hK3 => ?_
  refine SX.region_d [some 13, some 14, some 9] rfl (fun ops hops => ?_)
  unfold Dsts at hops
  simp (maxSteps:=1000000)(dsimp:=false)(disch:=omega) only [go_sem, Φa, hP, hops]
  refine ⟨_, Cell.at 3 rfl rfl, ?_⟩
  try with_reducible refine stI ?_
  try simp (maxSteps:=1000000)(dsimp:=false)(disch:=omega) only [go_sem, Φa, hP, hops]
  refine ⟨_, Cell.at 3 rfl rfl, ?_⟩
  try with_reducible refine stI ?_
  try simp (maxSteps:=1000000)(dsimp:=false)(disch:=omega) only [go_sem, Φa, hP, hops]
  refine ⟨_, Cell.at 3 rfl rfl, ?_⟩
  try with_reducible refine stI ?_
  try simp (maxSteps:=1000000)(dsimp:=false)(disch:=omega) only [go_sem, Φa, hP, hops]
  refine ⟨_, Cell.at 3 rfl rfl, ?_⟩
  try with_reducible refine stI ?_
  try simp (maxSteps:=1000000)(dsimp:=false)(disch:=omega) only [go_sem, Φa, hP, hops]
  refine ⟨_, Cell.at 3 rfl rfl, ?_⟩
  try with_reducible refine stI ?_
  try simp (maxSteps:=1000000)(dsimp:=false)(disch:=omega) only [go_sem, Φa, hP, hops]
  refine ⟨_, Cell.at 3 rfl rfl, ?_⟩
  try with_reducible refine stI ?_
  try simp (maxSteps:=1000000)(dsimp:=false)(disch:=omega) only [go_sem, Φa, hP, hops]
  refine ⟨_, Cell.at 3 rfl rfl, ?_⟩
  try with_reducible refine stI ?_
  try simp (maxSteps:=1000000)(dsimp:=false)(disch:=omega) only [go_sem, Φa, hP, hops]
  refine ⟨_, Cell.at 3 rfl rfl, ?_⟩
  try with_reducible refine stI ?_
  try simp (maxSteps:=1000000)(dsimp:=false)(disch:=omega) only [go_sem, Φa, hP, hops]
  refine ⟨_, Cell.at 3 rfl rfl, ?_⟩
  try with_reducible refine stI ?_
  try simp (maxSteps:=1000000)(dsimp:=false)(disch:=omega) only [go_sem, Φa, hP, hops]
  refine ⟨_, Cell.at 3 rfl rfl, ?_⟩
  try with_reducible refine stI ?_
  try simp (maxSteps:=1000000)(dsimp:=false)(disch:=omega) only [go_sem, Φa, hP, hops]
  refine ⟨_, Cell.at 3 rfl rfl, ?_⟩
  try with_reducible refine stI ?_
  try simp (maxSteps:=1000000)(dsimp:=false)(disch:=omega) only [go_sem, Φa, hP, hops]
  refine ⟨_, Cell.at 3 rfl rfl, ?_⟩
  try with_reducible refine stI ?_
  try simp (maxSteps:=1000000)(dsimp:=false)(disch:=omega) only [go_sem, Φa, hP, hops]
  refine ⟨_, Cell.at 3 rfl rfl, ?_⟩
  try with_reducible refine stI ?_
  try simp (maxSteps:=1000000)(dsimp:=false)(disch:=omega) only [go_sem, Φa, hP, hops]
  refine ⟨_, Cell.at 3 rfl rfl, ?_⟩
  try with_reducible refine stI ?_
  try simp (maxSteps:=1000000)(dsimp:=false)(disch:=omega) only [go_sem, Φa, hP, hops]
  refine ⟨_, Cell.at 3 rfl rfl, ?_⟩
  try with_reducible refine stI ?_
  try simp (maxSteps:=1000000)(dsimp:=false)(disch:=omega) only [go_sem, Φa, hP, hops]
  refine ⟨_, Cell.at 3 rfl rfl, ?_⟩
  try with_reducible refine stI ?_
  try simp (maxSteps:=1000000)(dsimp:=false)(disch:=omega) only [go_sem, Φa, hP, hops]
  refine ⟨_, Cell.at 3 rfl rfl, ?_⟩
  try with_reducible refine stI ?_
  try simp (maxSteps:=1000000)(dsimp:=false)(disch:=omega) only [go_sem, Φa, hP, hops]
  refine ⟨_, Cell.at 3 rfl rfl, ?_⟩
  try with_reducible refine stI ?_
  try simp (maxSteps:=1000000)(dsimp:=false)(disch:=omega) only [go_sem, Φa, hP, hops]
  refine ⟨_, Cell.at 3 rfl rfl, ?_⟩
  try with_reducible refine stI ?_
  try simp (maxSteps:=1000000)(dsimp:=false)(disch:=omega) only [go_sem, Φa, hP, hops]
  refine ⟨_, Cell.at 3 rfl rfl, ?_⟩
  try with_reducible refine stI ?_
  try simp (maxSteps:=1000000)(dsimp:=false)(disch:=omega) only [go_sem, Φa, hP, hops]
  refine ⟨_, Cell.at 3 rfl rfl, ?_⟩
  try with_reducible refine stI ?_
  try simp (maxSteps:=1000000)(dsimp:=false)(disch:=omega) only [go_sem, Φa, hP, hops]
  refine ⟨_, Cell.at 3 rfl rfl, ?_⟩
  try with_reducible refine stI ?_
  try simp (maxSteps:=1000000)(dsimp:=false)(disch:=omega) only [go_sem, Φa, hP, hops]
  refine ⟨_, Cell.at 3 rfl rfl, ?_⟩
  try with_reducible refine stI ?_
  try simp (maxSteps:=1000000)(dsimp:=false)(disch:=omega) only [go_sem, Φa, hP, hops]
  first | (refine SCall.mono (Check_spec (g := g) (sv := .slice As g.st.length cs) (pv := .slice Ap g.pg.length cp) (mv := .slice Am g.mm.length cm) hP (SlI.cons _ (SlI.cons _ (SlI.cons _ (SlI.cons _ hs)))) (SlI.cons _ (SlI.cons _ (SlI.cons _ (SlI.cons _ hp)))) (SlI.cons _ (SlI.cons _ (SlI.cons _ (SlI.cons _ hm)))) (by omega) (by omega) (by omega)) ?_; rintro v_ L_ ⟨hv_, hL_⟩; rw [hv_, hL_]; clear hv_ hL_ v_ L_) | refine ⟨_, Check_spec (g := g) (sv := .slice As g.st.length cs) (pv := .slice Ap g.pg.length cp) (mv := .slice Am g.mm.length cm) hP (SlI.cons _ (SlI.cons _ (SlI.cons _ (SlI.cons _ hs)))) (SlI.cons _ (SlI.cons _ (SlI.cons _ (SlI.cons _ hp)))) (SlI.cons _ (SlI.cons _ (SlI.cons _ (SlI.cons _ hm)))) (by omega) (by omega) (by omega), ?_⟩ | refine ⟨_, fun L0 hl0 => Check_spec (g := g) (sv := .slice As g.st.length cs) (pv := .slice Ap g.pg.length cp) (mv := .slice Am g.mm.length cm) hP (SlI.cons _ (SlI.cons _ (SlI.cons _ (SlI.cons _ hs)))) (SlI.cons _ (SlI.cons _ (SlI.cons _ (SlI.cons _ hp)))) (SlI.cons _ (SlI.cons _ (SlI.cons _ (SlI.cons _ hm)))) (by omega) (by omega) (by omega), ?_⟩
  try with_reducible refine stI ?_
  try simp (maxSteps:=1000000)(dsimp:=false)(disch:=omega) only [go_sem, Φa, hP, hops]
  refine hK3 _ _ ?_
  try clear hK3 K3
  refine SX.live [3, 4, 5, 6, 9] (fun T1 hT1 => ?_)
  simp only [forall_mem_cons', forall_mem_nil', go_sem, Φa, hP] at hT1
  obtain ⟨h1_3, h1_4, h1_5, h1_6, h1_9⟩ := hT1
  refine SX.seq_k fun K4 hK4 => ?_
  refine SX.region_d [some 15, some 16] rfl (fun ops hops => ?_)
  unfold Dsts at hops
  simp (maxSteps:=1000000)(dsimp:=false)(disch:=omega) only [go_sem, Φa, hP, h1_3, h1_4, h1_5, h1_6, h1_9, hops]
  repeat' ((first | refine And.intro (by omega) ?_ | fail); try (with_reducible refine stI ?_); try simp (maxSteps:=1000000)(dsimp:=false)(disch:=omega) only [go_sem, Φa, hP, h1_3, h1_4, h1_5, h1_6, h1_9, hops])
  refine hK4 _ _ ?_
  try clear hK4 K4
  refine SX.cond_k fun X5 Y5 hX5 hY5 => ?_
  simp (maxSteps:=1000000)(dsimp:=false)(disch:=omega) only [go_sem, Φa, hP, h1_3, h1_4, h1_5, h1_6, h1_9, condVC]
  refine ⟨fun hc16 => hX5 ?_, fun hc16 => hY5 ?_⟩
  · clear hX5 hY5 X5 Y5
    refine SX.seq_k fun K6 hK6 => ?_
    refine SX.region_d [some 17, some 18, none, some 7, some 8] rfl (fun ops hops => ?_)
    unfold Dsts at hops
    simp (maxSteps:=1000000)(dsimp:=false)(disch:=omega) only [go_sem, Φa, hP, h1_3, h1_4, h1_5, h1_6, h1_9, hops]
    refine ⟨0, _, _, _, rfl, by decide, .inr (by decide), ?_⟩
    try with_reducible refine stI ?_
    try simp (maxSteps:=1000000)(dsimp:=false)(disch:=omega) only [go_sem, Φa, hP, h1_3, h1_4, h1_5, h1_6, h1_9, hops]
    refine hK6 _ _ ?_
    try clear hK6 K6
    refine SX.ret ?_
    simp only [andThen_normal, andThen_ret, andThen_exit, inBlk_normal, inBlk_ret, inBlk_exit, Nat.reduceEqDiff, if_true, if_false, ↓reduceIte, retQ_ret]
    try simp only [res0,res1,res2,res3,stK_e,resX,resK,oneOr,ld_ptr,loadVC,loadN,List.nil_append,List.cons_append,Nat.reduceAdd,Nat.add_zero,Nat.zero_add,Addr.add_lit,Addr.add_zero',add_addS,T.elA_29,T.lay_29,T.szA_29,T.zr_29,Try.underlying29,go_sem,Φa,hP,h1_3,h1_4,h1_5,h1_6,h1_9]
    refine ⟨_, _, (Less.drops (Less.drops (Less.drops (Less.drop _ _)))).trans ((Less.none _).trans ((Less.none _).trans (Less.none _))), ⟨_, Cell.at 0 rfl rfl, _, Cell.at 0 rfl rfl, _, Cell.at 0 rfl rfl, _, Cell.at 0 rfl rfl, _, Cell.at 0 rfl rfl, _, Cell.at 0 rfl rfl, _, Cell.at 0 rfl rfl, _, Cell.at 0 rfl rfl, _, Cell.at 0 rfl rfl, _, Cell.at 0 rfl rfl, _, Cell.at 0 rfl rfl, _, Cell.at 0 rfl rfl, _, Cell.at 0 rfl rfl, _, Cell.at 0 rfl rfl, _, Cell.at 0 rfl rfl, _, Cell.at 0 rfl rfl, _, Cell.at 0 rfl rfl, _, Cell.at 0 rfl rfl, _, Cell.at 0 rfl rfl, _, Cell.at 0 rfl rfl, _, Cell.at 0 rfl rfl, _, Cell.at 0 rfl rfl, _, Cell.at 0 rfl rfl, rfl⟩, ?_⟩
    unfold stepG
    rw [if_pos (by omega)]
    exact ⟨_, _, _, _, _, _, rfl, rfl, ⟨RowI.nil _ _, RowI.nil _ _, RowI.nil _ _⟩⟩
  · clear hX5 hY5 X5 Y5
    refine SX.skip ?_
    try simp only [andThen_normal, andThen_ret, andThen_exit, inBlk_normal, inBlk_ret, inBlk_exit, Nat.reduceEqDiff, if_true, if_false, ↓reduceIte]
    refine hK2 _ _ ?_
    try clear hK2 K2
    refine SX.seq_k fun K7 hK7 => ?_
    refine SX.seq_k fun K8 hK8 => ?_
    refine SX.region_xd [some 19, some 20, some 21, some 22, some 23, some 24, some 25, some 26, some 27, some 28, some 29, some 30, some 31] rfl (fun ops hops => ?_)
    unfold Dsts at hops
    refine RX.live [3, 4, 5, 6] (fun T2 hT2 => ?_)
    simp only [forall_mem_cons', forall_mem_nil', go_sem, Φa, hP, h1_3, h1_4, h1_5, h1_6, h1_9] at hT2
    obtain ⟨h2_3, h2_4, h2_5, h2_6⟩ := hT2
    clear h1_3 h1_4 h1_5 h1_6 h1_9 T1
    refine RX.join 13 (fun (ss : Unit) T L' => T 31 = .bool (decide (65536 < f.from_ + (f.bs.length : Int)) || decide (16 ≤ d.key)) ∧ T 3 = T2 3 ∧ T 4 = T2 4 ∧ T 5 = T2 5 ∧ T 6 = T2 6 ∧ L' = some (b3, .cells #[.int .u8 0, .int .u8 0, .int .u8 0, .int .u8 0, .int .u8 0, .int .u8 0, .int .u8 0, .int .u8 0, .int .u8 0, .int .u8 0, .int .u8 0, .int .u8 0, .int .u8 0, .int .u8 0, .int .u8 0, .int .u8 0, .int .u16 0, .int .u16 0, .slice none 0 0, .int .u8 0, .int .u8 0, .slice none 0 0, .slice none 0 0] 29 (0, 0)) :: some (b2, .cells d.cells.toArray 50 (0, 0)) :: some (b1, .cells (f.cells (.slice Af f.bs.length cf)).toArray 40 (0, 0)) :: some (b0, .cells (g.cells (.slice As g.st.length cs) (.slice Ap g.pg.length cp) (.slice Am g.mm.length cm)).toArray 29 (0, 0)) :: L ∧ (True)) (fun K9 hK9 => ?_) ?_
    · simp only [h2_3, h2_4, h2_5, h2_6] at hK9
      simp (maxSteps:=1000000)(dsimp:=false)(disch:=omega) only [go_sem, Φa, hP, h2_3, h2_4, h2_5, h2_6, hops]
      repeat' (first | refine iteB (fun hg => ?_) (fun hg => ?_) | refine iteI (fun hg => ?_) (fun hg => ?_) | ((first | refine ⟨_, Cell.at 2 rfl (show (f.cells _)[16]? = _ from rfl), ?_⟩ | refine ⟨_, Cell.at 2 rfl (show (f.cells _)[17]? = _ from rfl), ?_⟩ | refine ⟨_, Cell.at 1 rfl (show (d.cells)[2]? = _ from rfl), ?_⟩ | refine And.intro (by omega) ?_ | refine ⟨_, Cell.at 0 rfl rfl, ?_⟩ | refine ⟨_, Cell.at 1 rfl rfl, ?_⟩ | refine ⟨_, Cell.at 2 rfl rfl, ?_⟩ | refine ⟨_, Cell.at 3 rfl rfl, ?_⟩ | fail); try (with_reducible refine stI ?_); try simp (maxSteps:=1000000)(dsimp:=false)(disch:=omega) only [go_sem, Φa, hP, h2_3, h2_4, h2_5, h2_6, hops]) | fail)
      all_goals
        refine hK9 () _ (some (b3, .cells #[.int .u8 0, .int .u8 0, .int .u8 0, .int .u8 0, .int .u8 0, .int .u8 0, .int .u8 0, .int .u8 0, .int .u8 0, .int .u8 0, .int .u8 0, .int .u8 0, .int .u8 0, .int .u8 0, .int .u8 0, .int .u8 0, .int .u16 0, .int .u16 0, .slice none 0 0, .int .u8 0, .int .u8 0, .slice none 0 0, .slice none 0 0] 29 (0, 0)) :: some (b2, .cells d.cells.toArray 50 (0, 0)) :: some (b1, .cells (f.cells (.slice Af f.bs.length cf)).toArray 40 (0, 0)) :: some (b0, .cells (g.cells (.slice As g.st.length cs) (.slice Ap g.pg.length cp) (.slice Am g.mm.length cm)).toArray 29 (0, 0)) :: L) _ (by first | exact Less.refl _ | exact Less.drop _ _ | exact Less.drops (Less.drop _ _) | exact Less.drops (Less.drops (Less.drop _ _)) | exact Less.drops (Less.drops (Less.drops (Less.drop _ _))) | exact Less.drops (Less.drops (Less.drops (Less.drops (Less.drop _ _))))) ?_
        try dsimp only
        refine ⟨?_, ?_, ?_, ?_, ?_, ?_, ?_⟩
        · simp (maxSteps:=1000000)(dsimp:=false)(disch:=omega) only [go_sem, Φa, hP, h2_3, h2_4, h2_5, h2_6]
          first | done | (refine congrArg Value.bool ?_; simp_all; done) | (refine congrArg Value.bool ?_; simp_all; omega)
        · simp (maxSteps:=1000000)(dsimp:=false)(disch:=omega) only [go_sem, Φa, hP, h2_3, h2_4, h2_5, h2_6]
        · simp (maxSteps:=1000000)(dsimp:=false)(disch:=omega) only [go_sem, Φa, hP, h2_3, h2_4, h2_5, h2_6]
        · simp (maxSteps:=1000000)(dsimp:=false)(disch:=omega) only [go_sem, Φa, hP, h2_3, h2_4, h2_5, h2_6]
        · simp (maxSteps:=1000000)(dsimp:=false)(disch:=omega) only [go_sem, Φa, hP, h2_3, h2_4, h2_5, h2_6]
        · rfl
        · trivial
    · intro ss T3 L3 hI
      simp only [h2_3, h2_4, h2_5, h2_6] at hI 
      obtain ⟨h3_31, h3_3, h3_4, h3_5, h3_6, hL3, hinv⟩ := hI
      replace hL3 := hL3.symm
      subst hL3
      clear h2_3 h2_4 h2_5 h2_6 T2
      refine RX.done ?_
      simp (maxSteps:=1000000)(dsimp:=false)(disch:=omega) only [go_sem, Φa, hP, h3_31, h3_3, h3_4, h3_5, h3_6, hops]
      refine hK8 _ _ ?_
      try clear hK8 K8
      refine SX.cond_k fun X10 Y10 hX10 hY10 => ?_
      simp (maxSteps:=1000000)(dsimp:=false)(disch:=omega) only [go_sem, Φa, hP, h3_31, h3_3, h3_4, h3_5, h3_6, condVC]
      refine ⟨fun hc31 => hX10 ?_, fun hc31 => hY10 ?_⟩
      · clear hX10 hY10 X10 Y10
        refine SX.seq_k fun K11 hK11 => ?_
        refine SX.region_d [some 32, none, some 7, some 8] rfl (fun ops hops => ?_)
        unfold Dsts at hops
        simp (maxSteps:=1000000)(dsimp:=false)(disch:=omega) only [go_sem, Φa, hP, h3_31, h3_3, h3_4, h3_5, h3_6, hops]
        refine ⟨0, _, _, _, rfl, by decide, .inr (by decide), ?_⟩
        try with_reducible refine stI ?_
        try simp (maxSteps:=1000000)(dsimp:=false)(disch:=omega) only [go_sem, Φa, hP, h3_31, h3_3, h3_4, h3_5, h3_6, hops]
        refine hK11 _ _ ?_
        try clear hK11 K11
        refine SX.ret ?_
        simp only [andThen_normal, andThen_ret, andThen_exit, inBlk_normal, inBlk_ret, inBlk_exit, Nat.reduceEqDiff, if_true, if_false, ↓reduceIte, retQ_ret]
        try simp only [res0,res1,res2,res3,stK_e,resX,resK,oneOr,ld_ptr,loadVC,loadN,List.nil_append,List.cons_append,Nat.reduceAdd,Nat.add_zero,Nat.zero_add,Addr.add_lit,Addr.add_zero',add_addS,T.elA_29,T.lay_29,T.szA_29,T.zr_29,Try.underlying29,go_sem,Φa,hP,h3_31,h3_3,h3_4,h3_5,h3_6]
        refine ⟨_, _, (Less.drops (Less.drops (Less.drops (Less.drop _ _)))).trans ((Less.none _).trans ((Less.none _).trans (Less.none _))), ⟨_, Cell.at 0 rfl rfl, _, Cell.at 0 rfl rfl, _, Cell.at 0 rfl rfl, _, Cell.at 0 rfl rfl, _, Cell.at 0 rfl rfl, _, Cell.at 0 rfl rfl, _, Cell.at 0 rfl rfl, _, Cell.at 0 rfl rfl, _, Cell.at 0 rfl rfl, _, Cell.at 0 rfl rfl, _, Cell.at 0 rfl rfl, _, Cell.at 0 rfl rfl, _, Cell.at 0 rfl rfl, _, Cell.at 0 rfl rfl, _, Cell.at 0 rfl rfl, _, Cell.at 0 rfl rfl, _, Cell.at 0 rfl rfl, _, Cell.at 0 rfl rfl, _, Cell.at 0 rfl rfl, _, Cell.at 0 rfl rfl, _, Cell.at 0 rfl rfl, _, Cell.at 0 rfl rfl, _, Cell.at 0 rfl rfl, rfl⟩, ?_⟩
        unfold stepG
        rw [if_neg (by omega), if_pos (by simpa using hc31)]
        exact ⟨_, _, _, _, _, _, rfl, rfl, ⟨RowI.nil _ _, RowI.nil _ _, RowI.nil _ _⟩⟩
      · clear hX10 hY10 X10 Y10
        refine SX.skip ?_
        try simp only [andThen_normal, andThen_ret, andThen_exit, inBlk_normal, inBlk_ret, inBlk_exit, Nat.reduceEqDiff, if_true, if_false, ↓reduceIte]
        refine hK7 _ _ ?_
        try clear hK7 K7
        refine SX.seq_k fun K12 hK12 => ?_
        have hsl2 : g.st.length ≤ 1000000 := by unfold checkE at hc16; split at hc16 <;> omega
        have hpl2 : g.pg.length ≤ 1000000 := by unfold checkE at hc16; split at hc16 <;> omega
        have hml2 : g.mm.length ≤ 1000000 := by unfold checkE at hc16; split at hc16 <;> omega
        refine SX.region_d [some 34, some 35, some 33, some 36, some 37, some 10, none, some 11] rfl (fun ops hops => ?_)
        unfold Dsts at hops
        simp (maxSteps:=1000000)(dsimp:=false)(disch:=omega) only [go_sem, Φa, hP, h3_31, h3_3, h3_4, h3_5, h3_6, hops]
        refine ⟨_, Cell.at 3 rfl rfl, ?_⟩
        try with_reducible refine stI ?_
        try simp (maxSteps:=1000000)(dsimp:=false)(disch:=omega) only [go_sem, Φa, hP, h3_31, h3_3, h3_4, h3_5, h3_6, hops]
        refine ⟨_, Cell.at 3 rfl rfl, ?_⟩
        try with_reducible refine stI ?_
        try simp (maxSteps:=1000000)(dsimp:=false)(disch:=omega) only [go_sem, Φa, hP, h3_31, h3_3, h3_4, h3_5, h3_6, hops]
        refine ⟨_, Cell.at 3 rfl rfl, ?_⟩
        try with_reducible refine stI ?_
        try simp (maxSteps:=1000000)(dsimp:=false)(disch:=omega) only [go_sem, Φa, hP, h3_31, h3_3, h3_4, h3_5, h3_6, hops]
        refine ⟨_, Cell.at 3 rfl rfl, ?_⟩
        try with_reducible refine stI ?_
        try simp (maxSteps:=1000000)(dsimp:=false)(disch:=omega) only [go_sem, Φa, hP, h3_31, h3_3, h3_4, h3_5, h3_6, hops]
        refine ⟨_, Cell.at 3 rfl rfl, ?_⟩
        try with_reducible refine stI ?_
        try simp (maxSteps:=1000000)(dsimp:=false)(disch:=omega) only [go_sem, Φa, hP, h3_31, h3_3, h3_4, h3_5, h3_6, hops]
        refine ⟨_, Cell.at 3 rfl rfl, ?_⟩
        try with_reducible refine stI ?_
        try simp (maxSteps:=1000000)(dsimp:=false)(disch:=omega) only [go_sem, Φa, hP, h3_31, h3_3, h3_4, h3_5, h3_6, hops]
        refine ⟨_, Cell.at 3 rfl rfl, ?_⟩
        try with_reducible refine stI ?_
        try simp (maxSteps:=1000000)(dsimp:=false)(disch:=omega) only [go_sem, Φa, hP, h3_31, h3_3, h3_4, h3_5, h3_6, hops]
        refine ⟨_, Cell.at 3 rfl rfl, ?_⟩
        try with_reducible refine stI ?_
        try simp (maxSteps:=1000000)(dsimp:=false)(disch:=omega) only [go_sem, Φa, hP, h3_31, h3_3, h3_4, h3_5, h3_6, hops]
        refine ⟨_, Cell.at 3 rfl rfl, ?_⟩
        try with_reducible refine stI ?_
        try simp (maxSteps:=1000000)(dsimp:=false)(disch:=omega) only [go_sem, Φa, hP, h3_31, h3_3, h3_4, h3_5, h3_6, hops]
        refine ⟨_, Cell.at 3 rfl rfl, ?_⟩
        try with_reducible refine stI ?_
        try simp (maxSteps:=1000000)(dsimp:=false)(disch:=omega) only [go_sem, Φa, hP, h3_31, h3_3, h3_4, h3_5, h3_6, hops]
        refine ⟨_, Cell.at 3 rfl rfl, ?_⟩
        try with_reducible refine stI ?_
        try simp (maxSteps:=1000000)(dsimp:=false)(disch:=omega) only [go_sem, Φa, hP, h3_31, h3_3, h3_4, h3_5, h3_6, hops]
        refine ⟨_, Cell.at 3 rfl rfl, ?_⟩
        try with_reducible refine stI ?_
        try simp (maxSteps:=1000000)(dsimp:=false)(disch:=omega) only [go_sem, Φa, hP, h3_31, h3_3, h3_4, h3_5, h3_6, hops]
        refine ⟨_, Cell.at 3 rfl rfl, ?_⟩
        try with_reducible refine stI ?_
        try simp (maxSteps:=1000000)(dsimp:=false)(disch:=omega) only [go_sem, Φa, hP, h3_31, h3_3, h3_4, h3_5, h3_6, hops]
        refine ⟨_, Cell.at 3 rfl rfl, ?_⟩
        try with_reducible refine stI ?_
        try simp (maxSteps:=1000000)(dsimp:=false)(disch:=omega) only [go_sem, Φa, hP, h3_31, h3_3, h3_4, h3_5, h3_6, hops]
        refine ⟨_, Cell.at 3 rfl rfl, ?_⟩
        try with_reducible refine stI ?_
        try simp (maxSteps:=1000000)(dsimp:=false)(disch:=omega) only [go_sem, Φa, hP, h3_31, h3_3, h3_4, h3_5, h3_6, hops]
        refine ⟨_, Cell.at 3 rfl rfl, ?_⟩
        try with_reducible refine stI ?_
        try simp (maxSteps:=1000000)(dsimp:=false)(disch:=omega) only [go_sem, Φa, hP, h3_31, h3_3, h3_4, h3_5, h3_6, hops]
        refine ⟨_, Cell.at 3 rfl rfl, ?_⟩
        try with_reducible refine stI ?_
        try simp (maxSteps:=1000000)(dsimp:=false)(disch:=omega) only [go_sem, Φa, hP, h3_31, h3_3, h3_4, h3_5, h3_6, hops]
        refine ⟨_, Cell.at 3 rfl rfl, ?_⟩
        try with_reducible refine stI ?_
        try simp (maxSteps:=1000000)(dsimp:=false)(disch:=omega) only [go_sem, Φa, hP, h3_31, h3_3, h3_4, h3_5, h3_6, hops]
        refine ⟨_, Cell.at 3 rfl rfl, ?_⟩
        try with_reducible refine stI ?_
        try simp (maxSteps:=1000000)(dsimp:=false)(disch:=omega) only [go_sem, Φa, hP, h3_31, h3_3, h3_4, h3_5, h3_6, hops]
        refine ⟨_, Cell.at 3 rfl rfl, ?_⟩
        try with_reducible refine stI ?_
        try simp (maxSteps:=1000000)(dsimp:=false)(disch:=omega) only [go_sem, Φa, hP, h3_31, h3_3, h3_4, h3_5, h3_6, hops]
        refine ⟨_, Cell.at 3 rfl rfl, ?_⟩
        try with_reducible refine stI ?_
        try simp (maxSteps:=1000000)(dsimp:=false)(disch:=omega) only [go_sem, Φa, hP, h3_31, h3_3, h3_4, h3_5, h3_6, hops]
        refine ⟨_, Cell.at 3 rfl rfl, ?_⟩
        try with_reducible refine stI ?_
        try simp (maxSteps:=1000000)(dsimp:=false)(disch:=omega) only [go_sem, Φa, hP, h3_31, h3_3, h3_4, h3_5, h3_6, hops]
        refine ⟨_, Cell.at 3 rfl rfl, ?_⟩
        try with_reducible refine stI ?_
        try simp (maxSteps:=1000000)(dsimp:=false)(disch:=omega) only [go_sem, Φa, hP, h3_31, h3_3, h3_4, h3_5, h3_6, hops]
        first | (refine SCall.mono (Next_spec (g := g) (sv := .slice As g.st.length cs) (pv := .slice Ap g.pg.length cp) (mv := .slice Am g.mm.length cm) hP hg (SlI.cons _ (SlI.cons _ (SlI.cons _ (SlI.cons _ hs)))) (SlI.cons _ (SlI.cons _ (SlI.cons _ (SlI.cons _ hp)))) (SlI.cons _ (SlI.cons _ (SlI.cons _ (SlI.cons _ hm)))) (by omega) (by omega) (by omega)) ?_; rintro v_ L_ ⟨hv_, hL_⟩; rw [hv_, hL_]; clear hv_ hL_ v_ L_) | refine ⟨_, Next_spec (g := g) (sv := .slice As g.st.length cs) (pv := .slice Ap g.pg.length cp) (mv := .slice Am g.mm.length cm) hP hg (SlI.cons _ (SlI.cons _ (SlI.cons _ (SlI.cons _ hs)))) (SlI.cons _ (SlI.cons _ (SlI.cons _ (SlI.cons _ hp)))) (SlI.cons _ (SlI.cons _ (SlI.cons _ (SlI.cons _ hm)))) (by omega) (by omega) (by omega), ?_⟩ | refine ⟨_, fun L0 hl0 => Next_spec (g := g) (sv := .slice As g.st.length cs) (pv := .slice Ap g.pg.length cp) (mv := .slice Am g.mm.length cm) hP hg (SlI.cons _ (SlI.cons _ (SlI.cons _ (SlI.cons _ hs)))) (SlI.cons _ (SlI.cons _ (SlI.cons _ (SlI.cons _ hp)))) (SlI.cons _ (SlI.cons _ (SlI.cons _ (SlI.cons _ hm)))) (by omega) (by omega) (by omega), ?_⟩
        unfold nextV Ord.cells
        try with_reducible refine stI ?_
        try simp (maxSteps:=1000000)(dsimp:=false)(disch:=omega) only [go_sem, Φa, hP, h3_31, h3_3, h3_4, h3_5, h3_6, hops]
        intro b4
        try with_reducible refine stI ?_
        try simp (maxSteps:=1000000)(dsimp:=false)(disch:=omega) only [go_sem, Φa, hP, h3_31, h3_3, h3_4, h3_5, h3_6, hops]
        refine ⟨0, _, _, _, rfl, by decide, .inr (by decide), ?_⟩
        try with_reducible refine stI ?_
        try simp (maxSteps:=1000000)(dsimp:=false)(disch:=omega) only [go_sem, Φa, hP, h3_31, h3_3, h3_4, h3_5, h3_6, hops]
        refine hK12 _ _ ?_
        try clear hK12 K12
        refine SX.seq_k fun K13 hK13 => ?_
        refine SX.seq_k fun K14 hK14 => ?_
        refine SX.region_d [some 38, some 39] rfl (fun ops hops => ?_)
        unfold Dsts at hops
        simp (maxSteps:=1000000)(dsimp:=false)(disch:=omega) only [go_sem, Φa, hP, h3_31, h3_3, h3_4, h3_5, h3_6, hops]
        repeat' ((first | refine And.intro (by omega) ?_ | fail); try (with_reducible refine stI ?_); try simp (maxSteps:=1000000)(dsimp:=false)(disch:=omega) only [go_sem, Φa, hP, h3_31, h3_3, h3_4, h3_5, h3_6, hops])
        refine hK14 _ _ ?_
        try clear hK14 K14
        refine SX.live [3, 4, 5, 6, 10, 11, 39] (fun T4 hT4 => ?_)
        simp only [forall_mem_cons', forall_mem_nil', go_sem, Φa, hP, h3_31, h3_3, h3_4, h3_5, h3_6] at hT4
        obtain ⟨h4_3, h4_4, h4_5, h4_6, h4_10, h4_11, h4_39⟩ := hT4
        clear h3_31 h3_3 h3_4 h3_5 h3_6 T3
        refine SX.cond_k fun X15 Y15 hX15 hY15 => ?_
        simp (maxSteps:=1000000)(dsimp:=false)(disch:=omega) only [go_sem, Φa, hP, h4_3, h4_4, h4_5, h4_6, h4_10, h4_11, h4_39, condVC]
        refine ⟨fun hc39 => hX15 ?_, fun hc39 => hY15 ?_⟩
        · clear hX15 hY15 X15 Y15
          refine SX.seq_k fun K16 hK16 => ?_
          refine SX.region_d [some 40, some 41, some 42, none, some 7, some 8] rfl (fun ops hops => ?_)
          unfold Dsts at hops
          simp (maxSteps:=1000000)(dsimp:=false)(disch:=omega) only [go_sem, Φa, hP, h4_3, h4_4, h4_5, h4_6, h4_10, h4_11, h4_39, hops]
          refine ⟨_, Cell.at 4 rfl rfl, ?_⟩
          try with_reducible refine stI ?_
          try simp (maxSteps:=1000000)(dsimp:=false)(disch:=omega) only [go_sem, Φa, hP, h4_3, h4_4, h4_5, h4_6, h4_10, h4_11, h4_39, hops]
          refine ⟨_, Cell.at 4 rfl rfl, ?_⟩
          try with_reducible refine stI ?_
          try simp (maxSteps:=1000000)(dsimp:=false)(disch:=omega) only [go_sem, Φa, hP, h4_3, h4_4, h4_5, h4_6, h4_10, h4_11, h4_39, hops]
          refine ⟨_, Cell.at 4 rfl rfl, ?_⟩
          try with_reducible refine stI ?_
          try simp (maxSteps:=1000000)(dsimp:=false)(disch:=omega) only [go_sem, Φa, hP, h4_3, h4_4, h4_5, h4_6, h4_10, h4_11, h4_39, hops]
          refine ⟨_, Cell.at 4 rfl rfl, ?_⟩
          try with_reducible refine stI ?_
          try simp (maxSteps:=1000000)(dsimp:=false)(disch:=omega) only [go_sem, Φa, hP, h4_3, h4_4, h4_5, h4_6, h4_10, h4_11, h4_39, hops]
          refine ⟨_, Cell.at 4 rfl rfl, ?_⟩
          try with_reducible refine stI ?_
          try simp (maxSteps:=1000000)(dsimp:=false)(disch:=omega) only [go_sem, Φa, hP, h4_3, h4_4, h4_5, h4_6, h4_10, h4_11, h4_39, hops]
          refine ⟨_, Cell.at 4 rfl rfl, ?_⟩
          try with_reducible refine stI ?_
          try simp (maxSteps:=1000000)(dsimp:=false)(disch:=omega) only [go_sem, Φa, hP, h4_3, h4_4, h4_5, h4_6, h4_10, h4_11, h4_39, hops]
          refine ⟨_, Cell.at 4 rfl rfl, ?_⟩
          try with_reducible refine stI ?_
          try simp (maxSteps:=1000000)(dsimp:=false)(disch:=omega) only [go_sem, Φa, hP, h4_3, h4_4, h4_5, h4_6, h4_10, h4_11, h4_39, hops]
          refine ⟨_, Cell.at 4 rfl rfl, ?_⟩
          try with_reducible refine stI ?_
          try simp (maxSteps:=1000000)(dsimp:=false)(disch:=omega) only [go_sem, Φa, hP, h4_3, h4_4, h4_5, h4_6, h4_10, h4_11, h4_39, hops]
          refine ⟨_, Cell.at 4 rfl rfl, ?_⟩
          try with_reducible refine stI ?_
          try simp (maxSteps:=1000000)(dsimp:=false)(disch:=omega) only [go_sem, Φa, hP, h4_3, h4_4, h4_5, h4_6, h4_10, h4_11, h4_39, hops]
          refine ⟨_, Cell.at 4 rfl rfl, ?_⟩
          try with_reducible refine stI ?_
          try simp (maxSteps:=1000000)(dsimp:=false)(disch:=omega) only [go_sem, Φa, hP, h4_3, h4_4, h4_5, h4_6, h4_10, h4_11, h4_39, hops]
          refine ⟨_, Cell.at 4 rfl rfl, ?_⟩
          try with_reducible refine stI ?_
          try simp (maxSteps:=1000000)(dsimp:=false)(disch:=omega) only [go_sem, Φa, hP, h4_3, h4_4, h4_5, h4_6, h4_10, h4_11, h4_39, hops]
          refine ⟨_, Cell.at 4 rfl rfl, ?_⟩
          try with_reducible refine stI ?_
          try simp (maxSteps:=1000000)(dsimp:=false)(disch:=omega) only [go_sem, Φa, hP, h4_3, h4_4, h4_5, h4_6, h4_10, h4_11, h4_39, hops]
          refine ⟨_, Cell.at 4 rfl rfl, ?_⟩
          try with_reducible refine stI ?_
          try simp (maxSteps:=1000000)(dsimp:=false)(disch:=omega) only [go_sem, Φa, hP, h4_3, h4_4, h4_5, h4_6, h4_10, h4_11, h4_39, hops]
          refine ⟨_, Cell.at 4 rfl rfl, ?_⟩
          try with_reducible refine stI ?_
          try simp (maxSteps:=1000000)(dsimp:=false)(disch:=omega) only [go_sem, Φa, hP, h4_3, h4_4, h4_5, h4_6, h4_10, h4_11, h4_39, hops]
          refine ⟨_, Cell.at 4 rfl rfl, ?_⟩
          try with_reducible refine stI ?_
          try simp (maxSteps:=1000000)(dsimp:=false)(disch:=omega) only [go_sem, Φa, hP, h4_3, h4_4, h4_5, h4_6, h4_10, h4_11, h4_39, hops]
          refine ⟨_, Cell.at 4 rfl rfl, ?_⟩
          try with_reducible refine stI ?_
          try simp (maxSteps:=1000000)(dsimp:=false)(disch:=omega) only [go_sem, Φa, hP, h4_3, h4_4, h4_5, h4_6, h4_10, h4_11, h4_39, hops]
          refine ⟨_, Cell.at 4 rfl rfl, ?_⟩
          try with_reducible refine stI ?_
          try simp (maxSteps:=1000000)(dsimp:=false)(disch:=omega) only [go_sem, Φa, hP, h4_3, h4_4, h4_5, h4_6, h4_10, h4_11, h4_39, hops]
          refine ⟨_, Cell.at 4 rfl rfl, ?_⟩
          try with_reducible refine stI ?_
          try simp (maxSteps:=1000000)(dsimp:=false)(disch:=omega) only [go_sem, Φa, hP, h4_3, h4_4, h4_5, h4_6, h4_10, h4_11, h4_39, hops]
          refine ⟨_, Cell.at 4 rfl rfl, ?_⟩
          try with_reducible refine stI ?_
          try simp (maxSteps:=1000000)(dsimp:=false)(disch:=omega) only [go_sem, Φa, hP, h4_3, h4_4, h4_5, h4_6, h4_10, h4_11, h4_39, hops]
          refine ⟨_, Cell.at 4 rfl rfl, ?_⟩
          try with_reducible refine stI ?_
          try simp (maxSteps:=1000000)(dsimp:=false)(disch:=omega) only [go_sem, Φa, hP, h4_3, h4_4, h4_5, h4_6, h4_10, h4_11, h4_39, hops]
          refine ⟨_, Cell.at 4 rfl rfl, ?_⟩
          try with_reducible refine stI ?_
          try simp (maxSteps:=1000000)(dsimp:=false)(disch:=omega) only [go_sem, Φa, hP, h4_3, h4_4, h4_5, h4_6, h4_10, h4_11, h4_39, hops]
          refine ⟨_, Cell.at 4 rfl rfl, ?_⟩
          try with_reducible refine stI ?_
          try simp (maxSteps:=1000000)(dsimp:=false)(disch:=omega) only [go_sem, Φa, hP, h4_3, h4_4, h4_5, h4_6, h4_10, h4_11, h4_39, hops]
          refine ⟨_, Cell.at 4 rfl rfl, ?_⟩
          try with_reducible refine stI ?_
          try simp (maxSteps:=1000000)(dsimp:=false)(disch:=omega) only [go_sem, Φa, hP, h4_3, h4_4, h4_5, h4_6, h4_10, h4_11, h4_39, hops]
          refine SCall.mono (clone_spec (g := g) (sv := .slice As g.st.length cs) (pv := .slice Ap g.pg.length cp) (mv := .slice Am g.mm.length cm) hP (SlI.cons _ (SlI.cons _ (SlI.cons _ (SlI.cons _ (SlI.cons _ hs))))) (SlI.cons _ (SlI.cons _ (SlI.cons _ (SlI.cons _ (SlI.cons _ hp))))) (SlI.cons _ (SlI.cons _ (SlI.cons _ (SlI.cons _ (SlI.cons _ hm))))) hsl2 hpl2 hml2) ?_
          rintro v_ L_ ⟨sv', pv', mv', t1, t2, t3, rfl, rfl, hrc⟩
          obtain ⟨Z1, z1, rfl, hz1⟩ := rowShape hrc.st
          obtain ⟨Z2, z2, rfl, hz2⟩ := rowShape hrc.pg
          obtain ⟨Z3, z3, rfl, hz3⟩ := rowShape hrc.mm
          unfold GM.cells
          try with_reducible refine stI ?_
          try simp (maxSteps:=1000000)(dsimp:=false)(disch:=omega) only [go_sem, Φa, hP, h4_3, h4_4, h4_5, h4_6, h4_10, h4_11, h4_39, hops]
          refine ⟨4, _, _, _, rfl, by decide, .inr (by decide), ?_⟩
          try with_reducible refine stI ?_
          try simp (maxSteps:=1000000)(dsimp:=false)(disch:=omega) only [go_sem, Φa, hP, h4_3, h4_4, h4_5, h4_6, h4_10, h4_11, h4_39, hops]
          refine hK16 _ _ ?_
          try clear hK16 K16
          refine SX.ret ?_
          simp only [andThen_normal, andThen_ret, andThen_exit, inBlk_normal, inBlk_ret, inBlk_exit, Nat.reduceEqDiff, if_true, if_false, ↓reduceIte, retQ_ret]
          try simp only [res0,res1,res2,res3,stK_e,resX,resK,oneOr,ld_ptr,loadVC,loadN,List.nil_append,List.cons_append,Nat.reduceAdd,Nat.add_zero,Nat.zero_add,Addr.add_lit,Addr.add_zero',add_addS,T.elA_29,T.lay_29,T.szA_29,T.zr_29,Try.underlying29,go_sem,Φa,hP,h4_3,h4_4,h4_5,h4_6,h4_10,h4_11,h4_39]
          refine ⟨_, _, Less.sublist (.cons_cons _ (.cons_cons _ (.cons_cons _ (.cons _ (.cons _ (.cons _ (.cons _ (.cons _ (List.Sublist.refl _))))))))), ⟨_, Cell.at 4 rfl rfl, _, Cell.at 4 rfl rfl, _, Cell.at 4 rfl rfl, _, Cell.at 4 rfl rfl, _, Cell.at 4 rfl rfl, _, Cell.at 4 rfl rfl, _, Cell.at 4 rfl rfl, _, Cell.at 4 rfl rfl, _, Cell.at 4 rfl rfl, _, Cell.at 4 rfl rfl, _, Cell.at 4 rfl rfl, _, Cell.at 4 rfl rfl, _, Cell.at 4 rfl rfl, _, Cell.at 4 rfl rfl, _, Cell.at 4 rfl rfl, _, Cell.at 4 rfl rfl, _, Cell.at 4 rfl rfl, _, Cell.at 4 rfl rfl, _, Cell.at 4 rfl rfl, _, Cell.at 4 rfl rfl, _, Cell.at 4 rfl rfl, _, Cell.at 4 rfl rfl, _, Cell.at 4 rfl rfl, rfl⟩, ?_⟩
          unfold stepG
          rw [if_neg (by omega), if_neg (by simp at hc31; omega), if_pos (by omega)]
          exact ⟨_, _, _, t1, t2, t3, rfl, rfl, hrc⟩
        · clear hX15 hY15 X15 Y15
          refine SX.skip ?_
          try simp only [andThen_normal, andThen_ret, andThen_exit, inBlk_normal, inBlk_ret, inBlk_exit, Nat.reduceEqDiff, if_true, if_false, ↓reduceIte]
          refine hK13 _ _ ?_
          try clear hK13 K13
          refine SX.seq_k fun K17 hK17 => ?_
          refine SX.drawn_d [(0, .q), (2, .q), (3, .q), (4, .q), (1, .e), (5, .q), (6, .e), (7, .q)] (fun L => L) (hP ▸ T.mixed) (by kernel_rfl) (by exact Less.refl _) [some 43, some 44, some 45, some 46, some 47, some 48, some 49, some 12] rfl (fun ops hops hopl => ?_)
          unfold Dsts at hops
          simp (maxSteps:=1000000)(dsimp:=false)(disch:=omega) only [go_sem, Φa, hP, h4_3, h4_4, h4_5, h4_6, h4_10, h4_11, h4_39, hops, hopl]
          refine ⟨_, Cell.at 4 rfl rfl, ?_⟩
          try with_reducible refine stI ?_
          try simp (maxSteps:=1000000)(dsimp:=false)(disch:=omega) only [go_sem, Φa, hP, h4_3, h4_4, h4_5, h4_6, h4_10, h4_11, h4_39, hops, hopl]
          refine ⟨_, Cell.at 4 rfl rfl, ?_⟩
          try with_reducible refine stI ?_
          try simp (maxSteps:=1000000)(dsimp:=false)(disch:=omega) only [go_sem, Φa, hP, h4_3, h4_4, h4_5, h4_6, h4_10, h4_11, h4_39, hops, hopl]
          refine ⟨_, Cell.at 4 rfl rfl, ?_⟩
          try with_reducible refine stI ?_
          try simp (maxSteps:=1000000)(dsimp:=false)(disch:=omega) only [go_sem, Φa, hP, h4_3, h4_4, h4_5, h4_6, h4_10, h4_11, h4_39, hops, hopl]
          refine ⟨_, Cell.at 4 rfl rfl, ?_⟩
          try with_reducible refine stI ?_
          try simp (maxSteps:=1000000)(dsimp:=false)(disch:=omega) only [go_sem, Φa, hP, h4_3, h4_4, h4_5, h4_6, h4_10, h4_11, h4_39, hops, hopl]
          refine ⟨_, Cell.at 4 rfl rfl, ?_⟩
          try with_reducible refine stI ?_
          try simp (maxSteps:=1000000)(dsimp:=false)(disch:=omega) only [go_sem, Φa, hP, h4_3, h4_4, h4_5, h4_6, h4_10, h4_11, h4_39, hops, hopl]
          refine ⟨_, Cell.at 4 rfl rfl, ?_⟩
          try with_reducible refine stI ?_
          try simp (maxSteps:=1000000)(dsimp:=false)(disch:=omega) only [go_sem, Φa, hP, h4_3, h4_4, h4_5, h4_6, h4_10, h4_11, h4_39, hops, hopl]
          refine ⟨_, Cell.at 4 rfl rfl, ?_⟩
          try with_reducible refine stI ?_
          try simp (maxSteps:=1000000)(dsimp:=false)(disch:=omega) only [go_sem, Φa, hP, h4_3, h4_4, h4_5, h4_6, h4_10, h4_11, h4_39, hops, hopl]
          refine ⟨_, Cell.at 4 rfl rfl, ?_⟩
          try with_reducible refine stI ?_
          try simp (maxSteps:=1000000)(dsimp:=false)(disch:=omega) only [go_sem, Φa, hP, h4_3, h4_4, h4_5, h4_6, h4_10, h4_11, h4_39, hops, hopl]
          refine ⟨_, Cell.at 4 rfl rfl, ?_⟩
          try with_reducible refine stI ?_
          try simp (maxSteps:=1000000)(dsimp:=false)(disch:=omega) only [go_sem, Φa, hP, h4_3, h4_4, h4_5, h4_6, h4_10, h4_11, h4_39, hops, hopl]
          refine ⟨_, Cell.at 4 rfl rfl, ?_⟩
          try with_reducible refine stI ?_
          try simp (maxSteps:=1000000)(dsimp:=false)(disch:=omega) only [go_sem, Φa, hP, h4_3, h4_4, h4_5, h4_6, h4_10, h4_11, h4_39, hops, hopl]
          refine ⟨_, Cell.at 4 rfl rfl, ?_⟩
          try with_reducible refine stI ?_
          try simp (maxSteps:=1000000)(dsimp:=false)(disch:=omega) only [go_sem, Φa, hP, h4_3, h4_4, h4_5, h4_6, h4_10, h4_11, h4_39, hops, hopl]
          refine ⟨_, Cell.at 4 rfl rfl, ?_⟩
          try with_reducible refine stI ?_
          try simp (maxSteps:=1000000)(dsimp:=false)(disch:=omega) only [go_sem, Φa, hP, h4_3, h4_4, h4_5, h4_6, h4_10, h4_11, h4_39, hops, hopl]
          refine ⟨_, Cell.at 4 rfl rfl, ?_⟩
          try with_reducible refine stI ?_
          try simp (maxSteps:=1000000)(dsimp:=false)(disch:=omega) only [go_sem, Φa, hP, h4_3, h4_4, h4_5, h4_6, h4_10, h4_11, h4_39, hops, hopl]
          refine ⟨_, Cell.at 4 rfl rfl, ?_⟩
          try with_reducible refine stI ?_
          try simp (maxSteps:=1000000)(dsimp:=false)(disch:=omega) only [go_sem, Φa, hP, h4_3, h4_4, h4_5, h4_6, h4_10, h4_11, h4_39, hops, hopl]
          refine ⟨_, Cell.at 4 rfl rfl, ?_⟩
          try with_reducible refine stI ?_
          try simp (maxSteps:=1000000)(dsimp:=false)(disch:=omega) only [go_sem, Φa, hP, h4_3, h4_4, h4_5, h4_6, h4_10, h4_11, h4_39, hops, hopl]
          refine ⟨_, Cell.at 4 rfl rfl, ?_⟩
          try with_reducible refine stI ?_
          try simp (maxSteps:=1000000)(dsimp:=false)(disch:=omega) only [go_sem, Φa, hP, h4_3, h4_4, h4_5, h4_6, h4_10, h4_11, h4_39, hops, hopl]
          refine ⟨_, Cell.at 4 rfl rfl, ?_⟩
          try with_reducible refine stI ?_
          try simp (maxSteps:=1000000)(dsimp:=false)(disch:=omega) only [go_sem, Φa, hP, h4_3, h4_4, h4_5, h4_6, h4_10, h4_11, h4_39, hops, hopl]
          refine ⟨_, Cell.at 4 rfl rfl, ?_⟩
          try with_reducible refine stI ?_
          try simp (maxSteps:=1000000)(dsimp:=false)(disch:=omega) only [go_sem, Φa, hP, h4_3, h4_4, h4_5, h4_6, h4_10, h4_11, h4_39, hops, hopl]
          refine ⟨_, Cell.at 4 rfl rfl, ?_⟩
          try with_reducible refine stI ?_
          try simp (maxSteps:=1000000)(dsimp:=false)(disch:=omega) only [go_sem, Φa, hP, h4_3, h4_4, h4_5, h4_6, h4_10, h4_11, h4_39, hops, hopl]
          refine ⟨_, Cell.at 4 rfl rfl, ?_⟩
          try with_reducible refine stI ?_
          try simp (maxSteps:=1000000)(dsimp:=false)(disch:=omega) only [go_sem, Φa, hP, h4_3, h4_4, h4_5, h4_6, h4_10, h4_11, h4_39, hops, hopl]
          refine ⟨_, Cell.at 4 rfl rfl, ?_⟩
          try with_reducible refine stI ?_
          try simp (maxSteps:=1000000)(dsimp:=false)(disch:=omega) only [go_sem, Φa, hP, h4_3, h4_4, h4_5, h4_6, h4_10, h4_11, h4_39, hops, hopl]
          refine ⟨_, Cell.at 4 rfl rfl, ?_⟩
          try with_reducible refine stI ?_
          try simp (maxSteps:=1000000)(dsimp:=false)(disch:=omega) only [go_sem, Φa, hP, h4_3, h4_4, h4_5, h4_6, h4_10, h4_11, h4_39, hops, hopl]
          refine ⟨_, Cell.at 4 rfl rfl, ?_⟩
          try with_reducible refine stI ?_
          try simp (maxSteps:=1000000)(dsimp:=false)(disch:=omega) only [go_sem, Φa, hP, h4_3, h4_4, h4_5, h4_6, h4_10, h4_11, h4_39, hops, hopl]
          refine ⟨_, Cell.at 0 rfl rfl, ?_⟩
          try with_reducible refine stI ?_
          try simp (maxSteps:=1000000)(dsimp:=false)(disch:=omega) only [go_sem, Φa, hP, h4_3, h4_4, h4_5, h4_6, h4_10, h4_11, h4_39, hops, hopl]
          refine ⟨_, Cell.at 0 rfl rfl, ?_⟩
          try with_reducible refine stI ?_
          try simp (maxSteps:=1000000)(dsimp:=false)(disch:=omega) only [go_sem, Φa, hP, h4_3, h4_4, h4_5, h4_6, h4_10, h4_11, h4_39, hops, hopl]
          refine ⟨_, Cell.at 0 rfl rfl, ?_⟩
          try with_reducible refine stI ?_
          try simp (maxSteps:=1000000)(dsimp:=false)(disch:=omega) only [go_sem, Φa, hP, h4_3, h4_4, h4_5, h4_6, h4_10, h4_11, h4_39, hops, hopl]
          refine ⟨_, Cell.at 0 rfl rfl, ?_⟩
          try with_reducible refine stI ?_
          try simp (maxSteps:=1000000)(dsimp:=false)(disch:=omega) only [go_sem, Φa, hP, h4_3, h4_4, h4_5, h4_6, h4_10, h4_11, h4_39, hops, hopl]
          refine ⟨_, Cell.at 0 rfl rfl, ?_⟩
          try with_reducible refine stI ?_
          try simp (maxSteps:=1000000)(dsimp:=false)(disch:=omega) only [go_sem, Φa, hP, h4_3, h4_4, h4_5, h4_6, h4_10, h4_11, h4_39, hops, hopl]
          refine ⟨_, Cell.at 0 rfl rfl, ?_⟩
          try with_reducible refine stI ?_
          try simp (maxSteps:=1000000)(dsimp:=false)(disch:=omega) only [go_sem, Φa, hP, h4_3, h4_4, h4_5, h4_6, h4_10, h4_11, h4_39, hops, hopl]
          refine ⟨_, Cell.at 3 rfl rfl, ?_⟩
          try with_reducible refine stI ?_
          try simp (maxSteps:=1000000)(dsimp:=false)(disch:=omega) only [go_sem, Φa, hP, h4_3, h4_4, h4_5, h4_6, h4_10, h4_11, h4_39, hops, hopl]
          refine ⟨_, Cell.at 3 rfl rfl, ?_⟩
          try with_reducible refine stI ?_
          try simp (maxSteps:=1000000)(dsimp:=false)(disch:=omega) only [go_sem, Φa, hP, h4_3, h4_4, h4_5, h4_6, h4_10, h4_11, h4_39, hops, hopl]
          refine ⟨_, Cell.at 3 rfl rfl, ?_⟩
          try with_reducible refine stI ?_
          try simp (maxSteps:=1000000)(dsimp:=false)(disch:=omega) only [go_sem, Φa, hP, h4_3, h4_4, h4_5, h4_6, h4_10, h4_11, h4_39, hops, hopl]
          refine ⟨_, Cell.at 3 rfl rfl, ?_⟩
          try with_reducible refine stI ?_
          try simp (maxSteps:=1000000)(dsimp:=false)(disch:=omega) only [go_sem, Φa, hP, h4_3, h4_4, h4_5, h4_6, h4_10, h4_11, h4_39, hops, hopl]
          refine ⟨_, Cell.at 3 rfl rfl, ?_⟩
          try with_reducible refine stI ?_
          try simp (maxSteps:=1000000)(dsimp:=false)(disch:=omega) only [go_sem, Φa, hP, h4_3, h4_4, h4_5, h4_6, h4_10, h4_11, h4_39, hops, hopl]
          refine ⟨_, Cell.at 3 rfl rfl, ?_⟩
          try with_reducible refine stI ?_
          try simp (maxSteps:=1000000)(dsimp:=false)(disch:=omega) only [go_sem, Φa, hP, h4_3, h4_4, h4_5, h4_6, h4_10, h4_11, h4_39, hops, hopl]
          refine ⟨_, Cell.at 3 rfl rfl, ?_⟩
          try with_reducible refine stI ?_
          try simp (maxSteps:=1000000)(dsimp:=false)(disch:=omega) only [go_sem, Φa, hP, h4_3, h4_4, h4_5, h4_6, h4_10, h4_11, h4_39, hops, hopl]
          refine ⟨_, Cell.at 3 rfl rfl, ?_⟩
          try with_reducible refine stI ?_
          try simp (maxSteps:=1000000)(dsimp:=false)(disch:=omega) only [go_sem, Φa, hP, h4_3, h4_4, h4_5, h4_6, h4_10, h4_11, h4_39, hops, hopl]
          refine ⟨_, Cell.at 3 rfl rfl, ?_⟩
          try with_reducible refine stI ?_
          try simp (maxSteps:=1000000)(dsimp:=false)(disch:=omega) only [go_sem, Φa, hP, h4_3, h4_4, h4_5, h4_6, h4_10, h4_11, h4_39, hops, hopl]
          refine ⟨_, Cell.at 3 rfl rfl, ?_⟩
          try with_reducible refine stI ?_
          try simp (maxSteps:=1000000)(dsimp:=false)(disch:=omega) only [go_sem, Φa, hP, h4_3, h4_4, h4_5, h4_6, h4_10, h4_11, h4_39, hops, hopl]
          refine ⟨_, Cell.at 3 rfl rfl, ?_⟩
          try with_reducible refine stI ?_
          try simp (maxSteps:=1000000)(dsimp:=false)(disch:=omega) only [go_sem, Φa, hP, h4_3, h4_4, h4_5, h4_6, h4_10, h4_11, h4_39, hops, hopl]
          refine ⟨_, Cell.at 3 rfl rfl, ?_⟩
          try with_reducible refine stI ?_
          try simp (maxSteps:=1000000)(dsimp:=false)(disch:=omega) only [go_sem, Φa, hP, h4_3, h4_4, h4_5, h4_6, h4_10, h4_11, h4_39, hops, hopl]
          refine ⟨_, Cell.at 3 rfl rfl, ?_⟩
          try with_reducible refine stI ?_
          try simp (maxSteps:=1000000)(dsimp:=false)(disch:=omega) only [go_sem, Φa, hP, h4_3, h4_4, h4_5, h4_6, h4_10, h4_11, h4_39, hops, hopl]
          refine ⟨_, Cell.at 3 rfl rfl, ?_⟩
          try with_reducible refine stI ?_
          try simp (maxSteps:=1000000)(dsimp:=false)(disch:=omega) only [go_sem, Φa, hP, h4_3, h4_4, h4_5, h4_6, h4_10, h4_11, h4_39, hops, hopl]
          refine ⟨_, Cell.at 3 rfl rfl, ?_⟩
          try with_reducible refine stI ?_
          try simp (maxSteps:=1000000)(dsimp:=false)(disch:=omega) only [go_sem, Φa, hP, h4_3, h4_4, h4_5, h4_6, h4_10, h4_11, h4_39, hops, hopl]
          refine ⟨_, Cell.at 3 rfl rfl, ?_⟩
          try with_reducible refine stI ?_
          try simp (maxSteps:=1000000)(dsimp:=false)(disch:=omega) only [go_sem, Φa, hP, h4_3, h4_4, h4_5, h4_6, h4_10, h4_11, h4_39, hops, hopl]
          refine ⟨_, Cell.at 3 rfl rfl, ?_⟩
          try with_reducible refine stI ?_
          try simp (maxSteps:=1000000)(dsimp:=false)(disch:=omega) only [go_sem, Φa, hP, h4_3, h4_4, h4_5, h4_6, h4_10, h4_11, h4_39, hops, hopl]
          refine ⟨_, Cell.at 3 rfl rfl, ?_⟩
          try with_reducible refine stI ?_
          try simp (maxSteps:=1000000)(dsimp:=false)(disch:=omega) only [go_sem, Φa, hP, h4_3, h4_4, h4_5, h4_6, h4_10, h4_11, h4_39, hops, hopl]
          refine ⟨_, Cell.at 2 rfl rfl, ?_⟩
          try with_reducible refine stI ?_
          try simp (maxSteps:=1000000)(dsimp:=false)(disch:=omega) only [go_sem, Φa, hP, h4_3, h4_4, h4_5, h4_6, h4_10, h4_11, h4_39, hops, hopl]
          refine ⟨_, Cell.at 2 rfl rfl, ?_⟩
          try with_reducible refine stI ?_
          try simp (maxSteps:=1000000)(dsimp:=false)(disch:=omega) only [go_sem, Φa, hP, h4_3, h4_4, h4_5, h4_6, h4_10, h4_11, h4_39, hops, hopl]
          refine ⟨_, Cell.at 2 rfl rfl, ?_⟩
          try with_reducible refine stI ?_
          try simp (maxSteps:=1000000)(dsimp:=false)(disch:=omega) only [go_sem, Φa, hP, h4_3, h4_4, h4_5, h4_6, h4_10, h4_11, h4_39, hops, hopl]
          refine SCall.mono (clone_spec (g := g) (sv := .slice As g.st.length cs) (pv := .slice Ap g.pg.length cp) (mv := .slice Am g.mm.length cm) hP (SlI.cons _ (SlI.cons _ (SlI.cons _ (SlI.cons _ (SlI.cons _ hs))))) (SlI.cons _ (SlI.cons _ (SlI.cons _ (SlI.cons _ (SlI.cons _ hp))))) (SlI.cons _ (SlI.cons _ (SlI.cons _ (SlI.cons _ (SlI.cons _ hm))))) hsl2 hpl2 hml2) ?_
          rintro v_ L_ ⟨sv1, pv1, mv1, t1, t2, t3, rfl, rfl, hrc⟩
          obtain ⟨Y1, y1, rfl, hy1⟩ := rowShape hrc.st
          obtain ⟨Y2, y2, rfl, hy2⟩ := rowShape hrc.pg
          obtain ⟨Y3, y3, rfl, hy3⟩ := rowShape hrc.mm
          unfold GM.cells
          try with_reducible refine stI ?_
          try simp (maxSteps:=1000000)(dsimp:=false)(disch:=omega) only [go_sem, Φa, hP, h4_3, h4_4, h4_5, h4_6, h4_10, h4_11, h4_39, hops, hopl]
          refine And.intro (Less.drops (Less.drops (Less.drop _ _))) ?_
          try with_reducible refine stI ?_
          try simp (maxSteps:=1000000)(dsimp:=false)(disch:=omega) only [go_sem, Φa, hP, h4_3, h4_4, h4_5, h4_6, h4_10, h4_11, h4_39, hops, hopl]
          intro bp
          try with_reducible refine stI ?_
          try simp (maxSteps:=1000000)(dsimp:=false)(disch:=omega) only [go_sem, Φa, hP, h4_3, h4_4, h4_5, h4_6, h4_10, h4_11, h4_39, hops, hopl]
          try refine And.intro (Less.drop _ _) ?_
          try with_reducible refine stI ?_
          try simp (maxSteps:=1000000)(dsimp:=false)(disch:=omega) only [go_sem, Φa, hP, h4_3, h4_4, h4_5, h4_6, h4_10, h4_11, h4_39, hops, hopl]
          refine hK17 _ _ ?_
          try clear hK17 K17
          refine SX.seq_k fun K18 hK18 => ?_
          refine SX.region_d [some 50, some 51, some 52, some 53, some 54, some 55, some 56, some 57, some 58, none] rfl (fun ops hops => ?_)
          unfold Dsts at hops
          simp (maxSteps:=1000000)(dsimp:=false)(disch:=omega) only [go_sem, Φa, hP, h4_3, h4_4, h4_5, h4_6, h4_10, h4_11, h4_39, hops]
          repeat' ((first | refine ⟨_, Cell.at 0 rfl rfl, ?_⟩ | refine ⟨_, Cell.at 1 rfl rfl, ?_⟩ | refine ⟨_, Cell.at 2 rfl rfl, ?_⟩ | refine ⟨_, Cell.at 3 rfl rfl, ?_⟩ | refine ⟨0, _, _, _, rfl, (by first | decide | omega | simp), .inr (by first | decide | omega | simp), ?_⟩ | refine ⟨1, _, _, _, rfl, (by first | decide | omega | simp), .inr (by first | decide | omega | simp), ?_⟩ | refine ⟨2, _, _, _, rfl, (by first | decide | omega | simp), .inr (by first | decide | omega | simp), ?_⟩ | refine ⟨3, _, _, _, rfl, (by first | decide | omega | simp), .inr (by first | decide | omega | simp), ?_⟩ | refine And.intro (by omega) ?_ | fail); try (with_reducible refine stI ?_); try simp (maxSteps:=1000000)(dsimp:=false)(disch:=omega) only [go_sem, Φa, hP, h4_3, h4_4, h4_5, h4_6, h4_10, h4_11, h4_39, hops])
          refine hK18 _ _ ?_
          try clear hK18 K18
          refine SX.live [3, 6, 10, 12] (fun T5 hT5 => ?_)
          simp only [forall_mem_cons', forall_mem_nil', go_sem, Φa, hP, h4_3, h4_4, h4_5, h4_6, h4_10, h4_11, h4_39] at hT5
          obtain ⟨h5_3, h5_6, h5_10, h5_12⟩ := hT5
          clear h4_3 h4_4 h4_5 h4_6 h4_10 h4_11 h4_39 T4
          refine SX.seq_k fun K19 hK19 => ?_
          refine SX.seq_k fun K20 hK20 => ?_
          have hdec := (nextG_dec (g := g) (by simpa using hc39)).1
          have hop2 := (nextG_dec (g := g) (by simpa using hc39)).2
          have hop3 : (nextG g).1.op ≤ 31 := hdec.op2
          have hoo : OkO (nextG g).1 := hdec.ok
          have hox : (nextG g).1.x < 16 := hdec.x
          have hoy : (nextG g).1.y < 16 := hdec.y
          have hon : (nextG g).1.n < 16 := hdec.n
          have hst3 : g.st.length ≤ 12 := by unfold checkE at hc16; split at hc16 <;> omega
          have hml3 : g.mm.length = 3232 := by unfold checkE at hc16; split at hc16 <;> omega
          have hpl3 : g.pg.length = 256 := by unfold checkE at hc16; split at hc16 <;> omega
          have hg1 : OkG { g with PC := IntKind.u16.wrap (g.PC + 2) } := ⟨hg.V, hg.Vb, hg.I, by
              show 0 ≤ IntKind.u16.wrap (g.PC + 2) ∧ IntKind.u16.wrap (g.PC + 2) ≤ 65535
              rw [IntKind.wrap_u16]
              omega, hg.st, hg.dl, hg.sd, hg.pg, hg.mm⟩
          refine SX.drawn_d [(1, .q), (2, .q), (4, .q), (0, .e), (3, .q), (5, .t), (6, .t)] (fun L => L) (hP ▸ T.mixed) (by kernel_rfl) (by exact Less.refl _) [some 59, some 60, some 61, some 62, some 63, some 64, some 11] rfl (fun ops hops hopl => ?_)
          unfold Dsts at hops
          simp (maxSteps:=1000000)(dsimp:=false)(disch:=omega) only [go_sem, Φa, hP, h5_3, h5_6, h5_10, h5_12, hops, hopl]
          refine ⟨_, Cell.at 4 rfl rfl, ?_⟩
          try with_reducible refine stI ?_
          try simp (maxSteps:=1000000)(dsimp:=false)(disch:=omega) only [go_sem, Φa, hP, h5_3, h5_6, h5_10, h5_12, hops, hopl]
          refine SCall.mono (deeds_spec hP) ?_
          rintro v_ L_ ⟨bm, rfl, rfl⟩
          try with_reducible refine stI ?_
          try simp (maxSteps:=1000000)(dsimp:=false)(disch:=omega) only [go_sem, Φa, hP, h5_3, h5_6, h5_10, h5_12, hops, hopl]
          refine ⟨_, _, rfl, 0, _, _, rfl, _, deed_at hop2 hop3, ?_⟩
          try with_reducible refine stI ?_
          try simp (maxSteps:=1000000)(dsimp:=false)(disch:=omega) only [go_sem, Φa, hP, h5_3, h5_6, h5_10, h5_12, hops, hopl]
          refine And.intro (deed_callable hop2 hop3) ?_
          refine SCall.mono (SCall.of_less (Less.drop _ _) (do_spec (g := { g with PC := IntKind.u16.wrap (g.PC + 2) }) (o := (nextG g).1) (f := f) (d := d) hP hg1 ⟨hrc.st, hrc.pg, hrc.mm⟩ hoo hox hoy hd hst3 hon hml3 hpl3 (SlI.cons _ (SlI.cons _ (SlI.cons _ (SlI.cons _ (SlI.cons _ hf))))) (by simp at hc31; omega) hfrb hop2 hop3)) ?_
          rintro v_ L_ ⟨rfl, sv2, pv2, mv2, u1, u2, u3, rfl, hr2⟩
          try with_reducible refine stI ?_
          try simp (maxSteps:=1000000)(dsimp:=false)(disch:=omega) only [go_sem, Φa, hP, h5_3, h5_6, h5_10, h5_12, hops, hopl]
          refine hK20 _ _ ?_
          try clear hK20 K20
          refine SX.seq_k fun K21 hK21 => ?_
          refine SX.region_d [some 65, some 66] rfl (fun ops hops => ?_)
          unfold Dsts at hops
          simp (maxSteps:=1000000)(dsimp:=false)(disch:=omega) only [go_sem, Φa, hP, h5_3, h5_6, h5_10, h5_12, hops]
          repeat' ((first | refine And.intro (by omega) ?_ | fail); try (with_reducible refine stI ?_); try simp (maxSteps:=1000000)(dsimp:=false)(disch:=omega) only [go_sem, Φa, hP, h5_3, h5_6, h5_10, h5_12, hops])
          refine hK21 _ _ ?_
          try clear hK21 K21
          refine SX.live [3, 6, 11, 12, 66] (fun T6 hT6 => ?_)
          simp only [forall_mem_cons', forall_mem_nil', go_sem, Φa, hP, h5_3, h5_6, h5_10, h5_12] at hT6
          obtain ⟨h6_3, h6_6, h6_11, h6_12, h6_66⟩ := hT6
          clear h5_3 h5_6 h5_10 h5_12 T5
          refine SX.cond_k fun X22 Y22 hX22 hY22 => ?_
          simp (maxSteps:=1000000)(dsimp:=false)(disch:=omega) only [go_sem, Φa, hP, h6_3, h6_6, h6_11, h6_12, h6_66, condVC]
          refine ⟨fun hc66 => hX22 ?_, fun hc66 => hY22 ?_⟩
          · clear hX22 hY22 X22 Y22
            refine SX.seq_k fun K23 hK23 => ?_
            refine SX.region_d [some 67, some 68, some 69, none, some 7, some 8] rfl (fun ops hops => ?_)
            unfold Dsts at hops
            simp (maxSteps:=1000000)(dsimp:=false)(disch:=omega) only [go_sem, Φa, hP, h6_3, h6_6, h6_11, h6_12, h6_66, hops]
            refine ⟨_, Cell.at 8 rfl rfl, ?_⟩
            try with_reducible refine stI ?_
            try simp (maxSteps:=1000000)(dsimp:=false)(disch:=omega) only [go_sem, Φa, hP, h6_3, h6_6, h6_11, h6_12, h6_66, hops]
            refine ⟨_, Cell.at 8 rfl rfl, ?_⟩
            try with_reducible refine stI ?_
            try simp (maxSteps:=1000000)(dsimp:=false)(disch:=omega) only [go_sem, Φa, hP, h6_3, h6_6, h6_11, h6_12, h6_66, hops]
            refine ⟨_, Cell.at 8 rfl rfl, ?_⟩
            try with_reducible refine stI ?_
            try simp (maxSteps:=1000000)(dsimp:=false)(disch:=omega) only [go_sem, Φa, hP, h6_3, h6_6, h6_11, h6_12, h6_66, hops]
            refine ⟨_, Cell.at 8 rfl rfl, ?_⟩
            try with_reducible refine stI ?_
            try simp (maxSteps:=1000000)(dsimp:=false)(disch:=omega) only [go_sem, Φa, hP, h6_3, h6_6, h6_11, h6_12, h6_66, hops]
            refine ⟨_, Cell.at 8 rfl rfl, ?_⟩
            try with_reducible refine stI ?_
            try simp (maxSteps:=1000000)(dsimp:=false)(disch:=omega) only [go_sem, Φa, hP, h6_3, h6_6, h6_11, h6_12, h6_66, hops]
            refine ⟨_, Cell.at 8 rfl rfl, ?_⟩
            try with_reducible refine stI ?_
            try simp (maxSteps:=1000000)(dsimp:=false)(disch:=omega) only [go_sem, Φa, hP, h6_3, h6_6, h6_11, h6_12, h6_66, hops]
            refine ⟨_, Cell.at 8 rfl rfl, ?_⟩
            try with_reducible refine stI ?_
            try simp (maxSteps:=1000000)(dsimp:=false)(disch:=omega) only [go_sem, Φa, hP, h6_3, h6_6, h6_11, h6_12, h6_66, hops]
            refine ⟨_, Cell.at 8 rfl rfl, ?_⟩
            try with_reducible refine stI ?_
            try simp (maxSteps:=1000000)(dsimp:=false)(disch:=omega) only [go_sem, Φa, hP, h6_3, h6_6, h6_11, h6_12, h6_66, hops]
            refine ⟨_, Cell.at 8 rfl rfl, ?_⟩
            try with_reducible refine stI ?_
            try simp (maxSteps:=1000000)(dsimp:=false)(disch:=omega) only [go_sem, Φa, hP, h6_3, h6_6, h6_11, h6_12, h6_66, hops]
            refine ⟨_, Cell.at 8 rfl rfl, ?_⟩
            try with_reducible refine stI ?_
            try simp (maxSteps:=1000000)(dsimp:=false)(disch:=omega) only [go_sem, Φa, hP, h6_3, h6_6, h6_11, h6_12, h6_66, hops]
            refine ⟨_, Cell.at 8 rfl rfl, ?_⟩
            try with_reducible refine stI ?_
            try simp (maxSteps:=1000000)(dsimp:=false)(disch:=omega) only [go_sem, Φa, hP, h6_3, h6_6, h6_11, h6_12, h6_66, hops]
            refine ⟨_, Cell.at 8 rfl rfl, ?_⟩
            try with_reducible refine stI ?_
            try simp (maxSteps:=1000000)(dsimp:=false)(disch:=omega) only [go_sem, Φa, hP, h6_3, h6_6, h6_11, h6_12, h6_66, hops]
            refine ⟨_, Cell.at 8 rfl rfl, ?_⟩
            try with_reducible refine stI ?_
            try simp (maxSteps:=1000000)(dsimp:=false)(disch:=omega) only [go_sem, Φa, hP, h6_3, h6_6, h6_11, h6_12, h6_66, hops]
            refine ⟨_, Cell.at 8 rfl rfl, ?_⟩
            try with_reducible refine stI ?_
            try simp (maxSteps:=1000000)(dsimp:=false)(disch:=omega) only [go_sem, Φa, hP, h6_3, h6_6, h6_11, h6_12, h6_66, hops]
            refine ⟨_, Cell.at 8 rfl rfl, ?_⟩
            try with_reducible refine stI ?_
            try simp (maxSteps:=1000000)(dsimp:=false)(disch:=omega) only [go_sem, Φa, hP, h6_3, h6_6, h6_11, h6_12, h6_66, hops]
            refine ⟨_, Cell.at 8 rfl rfl, ?_⟩
            try with_reducible refine stI ?_
            try simp (maxSteps:=1000000)(dsimp:=false)(disch:=omega) only [go_sem, Φa, hP, h6_3, h6_6, h6_11, h6_12, h6_66, hops]
            refine ⟨_, Cell.at 8 rfl rfl, ?_⟩
            try with_reducible refine stI ?_
            try simp (maxSteps:=1000000)(dsimp:=false)(disch:=omega) only [go_sem, Φa, hP, h6_3, h6_6, h6_11, h6_12, h6_66, hops]
            refine ⟨_, Cell.at 8 rfl rfl, ?_⟩
            try with_reducible refine stI ?_
            try simp (maxSteps:=1000000)(dsimp:=false)(disch:=omega) only [go_sem, Φa, hP, h6_3, h6_6, h6_11, h6_12, h6_66, hops]
            refine ⟨_, Cell.at 8 rfl rfl, ?_⟩
            try with_reducible refine stI ?_
            try simp (maxSteps:=1000000)(dsimp:=false)(disch:=omega) only [go_sem, Φa, hP, h6_3, h6_6, h6_11, h6_12, h6_66, hops]
            refine ⟨_, Cell.at 8 rfl rfl, ?_⟩
            try with_reducible refine stI ?_
            try simp (maxSteps:=1000000)(dsimp:=false)(disch:=omega) only [go_sem, Φa, hP, h6_3, h6_6, h6_11, h6_12, h6_66, hops]
            refine ⟨_, Cell.at 8 rfl rfl, ?_⟩
            try with_reducible refine stI ?_
            try simp (maxSteps:=1000000)(dsimp:=false)(disch:=omega) only [go_sem, Φa, hP, h6_3, h6_6, h6_11, h6_12, h6_66, hops]
            refine ⟨_, Cell.at 8 rfl rfl, ?_⟩
            try with_reducible refine stI ?_
            try simp (maxSteps:=1000000)(dsimp:=false)(disch:=omega) only [go_sem, Φa, hP, h6_3, h6_6, h6_11, h6_12, h6_66, hops]
            refine ⟨_, Cell.at 8 rfl rfl, ?_⟩
            try with_reducible refine stI ?_
            try simp (maxSteps:=1000000)(dsimp:=false)(disch:=omega) only [go_sem, Φa, hP, h6_3, h6_6, h6_11, h6_12, h6_66, hops]
            refine SCall.mono (clone_spec (g := g) (sv := .slice As g.st.length cs) (pv := .slice Ap g.pg.length cp) (mv := .slice Am g.mm.length cm) hP (SlI.cons _ (SlI.cons _ (SlI.cons _ (SlI.cons _ (SlI.cons _ (SlI.cons _ (SlI.cons _ (SlI.cons _ (SlI.cons _ hs))))))))) (SlI.cons _ (SlI.cons _ (SlI.cons _ (SlI.cons _ (SlI.cons _ (SlI.cons _ (SlI.cons _ (SlI.cons _ (SlI.cons _ hp))))))))) (SlI.cons _ (SlI.cons _ (SlI.cons _ (SlI.cons _ (SlI.cons _ (SlI.cons _ (SlI.cons _ (SlI.cons _ (SlI.cons _ hm))))))))) hsl2 hpl2 hml2) ?_
            rintro v_ L_ ⟨sv', pv', mv', t1', t2', t3', rfl, rfl, hrc'⟩
            obtain ⟨Z1, z1, rfl, hz1⟩ := rowShape hrc'.st
            obtain ⟨Z2, z2, rfl, hz2⟩ := rowShape hrc'.pg
            obtain ⟨Z3, z3, rfl, hz3⟩ := rowShape hrc'.mm
            unfold GM.cells
            try with_reducible refine stI ?_
            try simp (maxSteps:=1000000)(dsimp:=false)(disch:=omega) only [go_sem, Φa, hP, h6_3, h6_6, h6_11, h6_12, h6_66, hops]
            refine ⟨8, _, _, _, rfl, by decide, .inr (by decide), ?_⟩
            try with_reducible refine stI ?_
            try simp (maxSteps:=1000000)(dsimp:=false)(disch:=omega) only [go_sem, Φa, hP, h6_3, h6_6, h6_11, h6_12, h6_66, hops]
            refine hK23 _ _ ?_
            try clear hK23 K23
            refine SX.ret ?_
            simp only [andThen_normal, andThen_ret, andThen_exit, inBlk_normal, inBlk_ret, inBlk_exit, Nat.reduceEqDiff, if_true, if_false, ↓reduceIte, retQ_ret]
            try simp only [res0,res1,res2,res3,stK_e,resX,resK,oneOr,ld_ptr,loadVC,loadN,List.nil_append,List.cons_append,Nat.reduceAdd,Nat.add_zero,Nat.zero_add,Addr.add_lit,Addr.add_zero',add_addS,T.elA_29,T.lay_29,T.szA_29,T.zr_29,Try.underlying29,go_sem,Φa,hP,h6_3,h6_6,h6_11,h6_12,h6_66]
            refine ⟨_, _, Less.sublist (.cons_cons _ (.cons_cons _ (.cons_cons _ (.cons _ (.cons _ (.cons _ (.cons _ (.cons _ (.cons _ (.cons _ (.cons _ (.cons _ (List.Sublist.refl _))))))))))))), ⟨_, Cell.at 8 rfl rfl, _, Cell.at 8 rfl rfl, _, Cell.at 8 rfl rfl, _, Cell.at 8 rfl rfl, _, Cell.at 8 rfl rfl, _, Cell.at 8 rfl rfl, _, Cell.at 8 rfl rfl, _, Cell.at 8 rfl rfl, _, Cell.at 8 rfl rfl, _, Cell.at 8 rfl rfl, _, Cell.at 8 rfl rfl, _, Cell.at 8 rfl rfl, _, Cell.at 8 rfl rfl, _, Cell.at 8 rfl rfl, _, Cell.at 8 rfl rfl, _, Cell.at 8 rfl rfl, _, Cell.at 8 rfl rfl, _, Cell.at 8 rfl rfl, _, Cell.at 8 rfl rfl, _, Cell.at 8 rfl rfl, _, Cell.at 8 rfl rfl, _, Cell.at 8 rfl rfl, _, Cell.at 8 rfl rfl, rfl⟩, ?_⟩
            unfold stepG
            rw [if_neg (by omega), if_neg (by simp at hc31; omega), if_neg (by simpa using hc39)]
            dsimp only
            rw [if_pos (by simpa using hc66)]
            exact ⟨_, _, _, t1', t2', t3', rfl, rfl, hrc'⟩
          · clear hX22 hY22 X22 Y22
            refine SX.skip ?_
            try simp only [andThen_normal, andThen_ret, andThen_exit, inBlk_normal, inBlk_ret, inBlk_exit, Nat.reduceEqDiff, if_true, if_false, ↓reduceIte]
            refine hK19 _ _ ?_
            try clear hK19 K19
            refine SX.seq_k fun K24 hK24 => ?_
            obtain ⟨Z1, z1, rfl, hz1⟩ := rowShape hr2.st
            obtain ⟨Z2, z2, rfl, hz2⟩ := rowShape hr2.pg
            obtain ⟨Z3, z3, rfl, hz3⟩ := rowShape hr2.mm
            refine SX.region_d [some 70, some 71, some 72, some 73, none, some 7, some 8] rfl (fun ops hops => ?_)
            unfold Dsts at hops
            simp (maxSteps:=1000000)(dsimp:=false)(disch:=omega) only [go_sem, Φa, hP, h6_3, h6_6, h6_11, h6_12, h6_66, hops]
            refine ⟨_, Cell.at 0 rfl rfl, ?_⟩
            try with_reducible refine stI ?_
            try simp (maxSteps:=1000000)(dsimp:=false)(disch:=omega) only [go_sem, Φa, hP, h6_3, h6_6, h6_11, h6_12, h6_66, hops]
            refine ⟨_, Cell.at 0 rfl rfl, ?_⟩
            try with_reducible refine stI ?_
            try simp (maxSteps:=1000000)(dsimp:=false)(disch:=omega) only [go_sem, Φa, hP, h6_3, h6_6, h6_11, h6_12, h6_66, hops]
            refine ⟨_, Cell.at 0 rfl rfl, ?_⟩
            try with_reducible refine stI ?_
            try simp (maxSteps:=1000000)(dsimp:=false)(disch:=omega) only [go_sem, Φa, hP, h6_3, h6_6, h6_11, h6_12, h6_66, hops]
            refine ⟨_, Cell.at 0 rfl rfl, ?_⟩
            try with_reducible refine stI ?_
            try simp (maxSteps:=1000000)(dsimp:=false)(disch:=omega) only [go_sem, Φa, hP, h6_3, h6_6, h6_11, h6_12, h6_66, hops]
            refine ⟨_, Cell.at 0 rfl rfl, ?_⟩
            try with_reducible refine stI ?_
            try simp (maxSteps:=1000000)(dsimp:=false)(disch:=omega) only [go_sem, Φa, hP, h6_3, h6_6, h6_11, h6_12, h6_66, hops]
            refine ⟨_, Cell.at 0 rfl rfl, ?_⟩
            try with_reducible refine stI ?_
            try simp (maxSteps:=1000000)(dsimp:=false)(disch:=omega) only [go_sem, Φa, hP, h6_3, h6_6, h6_11, h6_12, h6_66, hops]
            refine ⟨_, Cell.at 0 rfl rfl, ?_⟩
            try with_reducible refine stI ?_
            try simp (maxSteps:=1000000)(dsimp:=false)(disch:=omega) only [go_sem, Φa, hP, h6_3, h6_6, h6_11, h6_12, h6_66, hops]
            refine ⟨_, Cell.at 0 rfl rfl, ?_⟩
            try with_reducible refine stI ?_
            try simp (maxSteps:=1000000)(dsimp:=false)(disch:=omega) only [go_sem, Φa, hP, h6_3, h6_6, h6_11, h6_12, h6_66, hops]
            refine ⟨_, Cell.at 0 rfl rfl, ?_⟩
            try with_reducible refine stI ?_
            try simp (maxSteps:=1000000)(dsimp:=false)(disch:=omega) only [go_sem, Φa, hP, h6_3, h6_6, h6_11, h6_12, h6_66, hops]
            refine ⟨_, Cell.at 0 rfl rfl, ?_⟩
            try with_reducible refine stI ?_
            try simp (maxSteps:=1000000)(dsimp:=false)(disch:=omega) only [go_sem, Φa, hP, h6_3, h6_6, h6_11, h6_12, h6_66, hops]
            refine ⟨_, Cell.at 0 rfl rfl, ?_⟩
            try with_reducible refine stI ?_
            try simp (maxSteps:=1000000)(dsimp:=false)(disch:=omega) only [go_sem, Φa, hP, h6_3, h6_6, h6_11, h6_12, h6_66, hops]
            refine ⟨_, Cell.at 0 rfl rfl, ?_⟩
            try with_reducible refine stI ?_
            try simp (maxSteps:=1000000)(dsimp:=false)(disch:=omega) only [go_sem, Φa, hP, h6_3, h6_6, h6_11, h6_12, h6_66, hops]
            refine ⟨_, Cell.at 0 rfl rfl, ?_⟩
            try with_reducible refine stI ?_
            try simp (maxSteps:=1000000)(dsimp:=false)(disch:=omega) only [go_sem, Φa, hP, h6_3, h6_6, h6_11, h6_12, h6_66, hops]
            refine ⟨_, Cell.at 0 rfl rfl, ?_⟩
            try with_reducible refine stI ?_
            try simp (maxSteps:=1000000)(dsimp:=false)(disch:=omega) only [go_sem, Φa, hP, h6_3, h6_6, h6_11, h6_12, h6_66, hops]
            refine ⟨_, Cell.at 0 rfl rfl, ?_⟩
            try with_reducible refine stI ?_
            try simp (maxSteps:=1000000)(dsimp:=false)(disch:=omega) only [go_sem, Φa, hP, h6_3, h6_6, h6_11, h6_12, h6_66, hops]
            refine ⟨_, Cell.at 0 rfl rfl, ?_⟩
            try with_reducible refine stI ?_
            try simp (maxSteps:=1000000)(dsimp:=false)(disch:=omega) only [go_sem, Φa, hP, h6_3, h6_6, h6_11, h6_12, h6_66, hops]
            refine ⟨_, Cell.at 0 rfl rfl, ?_⟩
            try with_reducible refine stI ?_
            try simp (maxSteps:=1000000)(dsimp:=false)(disch:=omega) only [go_sem, Φa, hP, h6_3, h6_6, h6_11, h6_12, h6_66, hops]
            refine ⟨_, Cell.at 0 rfl rfl, ?_⟩
            try with_reducible refine stI ?_
            try simp (maxSteps:=1000000)(dsimp:=false)(disch:=omega) only [go_sem, Φa, hP, h6_3, h6_6, h6_11, h6_12, h6_66, hops]
            refine ⟨_, Cell.at 0 rfl rfl, ?_⟩
            try with_reducible refine stI ?_
            try simp (maxSteps:=1000000)(dsimp:=false)(disch:=omega) only [go_sem, Φa, hP, h6_3, h6_6, h6_11, h6_12, h6_66, hops]
            refine ⟨_, Cell.at 0 rfl rfl, ?_⟩
            try with_reducible refine stI ?_
            try simp (maxSteps:=1000000)(dsimp:=false)(disch:=omega) only [go_sem, Φa, hP, h6_3, h6_6, h6_11, h6_12, h6_66, hops]
            refine ⟨_, Cell.at 0 rfl rfl, ?_⟩
            try with_reducible refine stI ?_
            try simp (maxSteps:=1000000)(dsimp:=false)(disch:=omega) only [go_sem, Φa, hP, h6_3, h6_6, h6_11, h6_12, h6_66, hops]
            refine ⟨_, Cell.at 0 rfl rfl, ?_⟩
            try with_reducible refine stI ?_
            try simp (maxSteps:=1000000)(dsimp:=false)(disch:=omega) only [go_sem, Φa, hP, h6_3, h6_6, h6_11, h6_12, h6_66, hops]
            refine ⟨_, Cell.at 0 rfl rfl, ?_⟩
            try with_reducible refine stI ?_
            try simp (maxSteps:=1000000)(dsimp:=false)(disch:=omega) only [go_sem, Φa, hP, h6_3, h6_6, h6_11, h6_12, h6_66, hops]
            refine ⟨5, _, _, _, rfl, by decide, .inr (by decide), ?_⟩
            try with_reducible refine stI ?_
            try simp (maxSteps:=1000000)(dsimp:=false)(disch:=omega) only [go_sem, Φa, hP, h6_3, h6_6, h6_11, h6_12, h6_66, hops]
            refine hK24 _ _ ?_
            try clear hK24 K24
            refine SX.ret ?_
            simp only [andThen_normal, andThen_ret, andThen_exit, inBlk_normal, inBlk_ret, inBlk_exit, Nat.reduceEqDiff, if_true, if_false, ↓reduceIte, retQ_ret]
            try simp only [res0,res1,res2,res3,stK_e,resX,resK,oneOr,ld_ptr,loadVC,loadN,List.nil_append,List.cons_append,Nat.reduceAdd,Nat.add_zero,Nat.zero_add,Addr.add_lit,Addr.add_zero',add_addS,T.elA_29,T.lay_29,T.szA_29,T.zr_29,Try.underlying29,go_sem,Φa,hP,h6_3,h6_6,h6_11,h6_12,h6_66]
            refine ⟨_, _, Less.sublist (.cons _ (.cons_cons _ (.cons_cons _ (.cons_cons _ (.cons _ (.cons _ (.cons _ (.cons _ (.cons _ (List.Sublist.refl _)))))))))), ⟨_, Cell.at 5 rfl rfl, _, Cell.at 5 rfl rfl, _, Cell.at 5 rfl rfl, _, Cell.at 5 rfl rfl, _, Cell.at 5 rfl rfl, _, Cell.at 5 rfl rfl, _, Cell.at 5 rfl rfl, _, Cell.at 5 rfl rfl, _, Cell.at 5 rfl rfl, _, Cell.at 5 rfl rfl, _, Cell.at 5 rfl rfl, _, Cell.at 5 rfl rfl, _, Cell.at 5 rfl rfl, _, Cell.at 5 rfl rfl, _, Cell.at 5 rfl rfl, _, Cell.at 5 rfl rfl, _, Cell.at 5 rfl rfl, _, Cell.at 5 rfl rfl, _, Cell.at 5 rfl rfl, _, Cell.at 5 rfl rfl, _, Cell.at 5 rfl rfl, _, Cell.at 5 rfl rfl, _, Cell.at 5 rfl rfl, rfl⟩, ?_⟩
            unfold stepG
            rw [if_neg (by omega), if_neg (by simp at hc31; omega), if_neg (by simpa using hc39)]
            dsimp only
            rw [if_neg (by simpa using hc66)]
            exact ⟨_, _, _, u1, u2, u3, rfl, rfl, hr2⟩

end Go.Proofs.Ytgioegdjeodpiaa
set_option linter.unusedVariables false
set_option linter.unusedSimpArgs false
universe u
namespace Go.SX
open Go.RowKit
/-! A region whose operations with effects may come in several orders: a tree of plans. -/
/-- What comes next: .q quiet, .c a pure call, taken early; .e k r s: k may be next, then r, or else one of s; .z none else; .t an effect behind which nothing early stands. -/
inductive Tr where
  | nil | z
  | q (k : Nat) (r : Tr) | c (k : Nat) (r : Tr) | e (k : Nat) (r s : Tr) | t (k : Nat) (r : Tr)
def Tr.alts : Tr → List Nat
  | .e k _ s => k :: s.alts
  | _ => []
def okTr (ops : Array Oper) (tl : List Nat) : Bool → Bool → Tr → Array Bool → Bool
  | hd, _, .nil, listed => hd && (Region.ready .any ops listed).isEmpty
  | hd, _, .z, _ => !hd
  | hd, td, .q k r, listed => hd && !td && (Region.ready .any ops listed).contains k && Region.free .any ops listed k && notCall ops k && tl.all (fun t => reach ops ops.size t k) && okTr ops tl true td r (listed.setIfInBounds k true)
  | hd, td, .c k r, listed => hd && !td && (Region.ready .any ops listed).contains k && Region.free .any ops listed k && tl.all (fun t => reach ops ops.size t k) && okTr ops tl true td r (listed.setIfInBounds k true)
  | hd, td, .e k r s, listed => (!hd || (Region.ready .any ops listed).all (fun i => (Tr.e k r s).alts.contains i)) && !td && !tl.contains k && (Region.ready .any ops listed).contains k && okTr ops tl true td r (listed.setIfInBounds k true) && okTr ops tl false td s listed
  | hd, _, .t k r, listed => hd && decide (Region.ready .any ops listed = [k]) && tl.contains k && okTr ops tl true true r (listed.setIfInBounds k true)
def Tr.size : Tr → Nat
  | .nil => 0 | .z => 0 | .q _ r => r.size + 1 | .c _ r => r.size + 1 | .e _ r _ => r.size + 1 | .t _ r => r.size + 1
def Tr.even (n : Nat) : Tr → Bool
  | .nil => n == 0 | .z => true | .q _ r => n != 0 && r.even (n - 1) | .c _ r => n != 0 && r.even (n - 1) | .e _ r s => n != 0 && r.even (n - 1) && s.even n | .t _ r => n != 0 && r.even (n - 1)
def Tr.tails : Tr → List Nat
  | .nil => [] | .z => [] | .q _ r => r.tails | .c _ r => r.tails | .e _ r _ => r.tails | .t k r => k :: r.tails
def treeB (ops : Array Oper) (pl : Tr) : Bool := Region.noSelect ops && pl.even ops.size && okTr ops pl.tails true false pl (Array.replicate ops.size false)
def VCtree (Γ : Ctx) (n : Nat) (ops : Array Oper) : Tr → (Env → Hp → Prop) → Env → Hp → Prop
  | .nil, K, T, L => K T L
  | .z, _, _, _ => True
  | .q k r, K, T, L => oM (ops.toList[k]?) (fun o => guardVC ops o.guard T (fun T => VQ Γ o T L (fun v => putVC n o.dst v T (fun T => VCtree Γ n ops r K T L))) (fun T => putVC n o.dst undef T (fun T => VCtree Γ n ops r K T L))) False
  | .c k r, K, T, L => oM (ops.toList[k]?) (fun o => guardVC ops o.guard T (fun T => ∃ v, (∀ L0, Less L0 L → VC Γ o T L0 (fun u L1 => u = v ∧ L1 = L0)) ∧ putVC n o.dst v T (fun T => VCtree Γ n ops r K T L)) (fun T => putVC n o.dst undef T (fun T => VCtree Γ n ops r K T L))) False
  | .e k r s, K, T, L => oM (ops.toList[k]?) (fun o => guardVC ops o.guard T (fun T => VC Γ o T L (fun v L' => putVC n o.dst v T (fun T => Less L' L ∧ VCtree Γ n ops r K T L'))) (fun T => putVC n o.dst undef T (fun T => VCtree Γ n ops r K T L))) False ∧ VCtree Γ n ops s K T L
  | .t k r, K, T, L => oM (ops.toList[k]?) (fun o => guardVC ops o.guard T (fun T => VC Γ o T L (fun v L' => putVC n o.dst v T (fun T => VCtree Γ n ops r K T L'))) (fun T => putVC n o.dst undef T (fun T => VCtree Γ n ops r K T L))) False
section
variable {Γ : Ctx} {n : Nat} {T : Env} {L : Hp} {Q : Exit → Env → Hp → Prop}

theorem tree_sound {ops : Array Oper} {tl : List Nat} {K : Env → Hp → Prop} (hs : Region.noSelect ops = true) : ∀ (pl : Tr) (m : Nat) (td : Bool) (listed : Array Bool) (M : Hp) (T : Env) (L : Hp) (a : Act),
    pl.even m = true → Closed ops listed → VCtree Γ n ops pl K T L → Fits n T a → (td = false → M = L) →
    (okTr ops tl true td pl listed = true → AnyL Γ ops (onlyNormal fun a w => ∃ T L, Fits n T a ∧ Inv Γ L w ∧ K T L) tl m listed M L a) ∧
    (okTr ops tl false td pl listed = true → ∀ i ∈ pl.alts, i ∈ Region.ready .any ops listed → ∀ w, Inv Γ L w → 0 < m ∧ wpOp Γ.P ops (onlyNormal fun a w => ∃ T L, Fits n T a ∧ Inv Γ L w ∧ K T L) i (fun a' w' => ∃ M' L' : Hp, Inv Γ L' w' ∧ Less L' M' ∧ (i ∉ tl → Less M' M) ∧ AnyL Γ ops (onlyNormal fun a w => ∃ T L, Fits n T a ∧ Inv Γ L w ∧ K T L) tl (m - 1) (listed.setIfInBounds i true) M' L' a') a w) := by
  intro pl
  induction pl with
  | nil =>
    intro m td listed M T L a he hcl h hf hC
    have hm : m = 0 := by simpa [Tr.even] using he
    subst hm
    exact ⟨fun hB => ⟨by simpa [okTr] using hB, fun w hi => ⟨T, L, hf, hi, h⟩⟩, fun hB => by simp [okTr] at hB⟩
  | z => exact fun m td listed M T L a he hcl h hf hC => ⟨fun hB => by simp [okTr] at hB, fun hB i hi => by simp [Tr.alts] at hi⟩
  | q k r ih =>
    intro m td listed M T L a he hcl h hf hC
    refine ⟨fun hB => ?_, fun hB => by simp [okTr] at hB⟩
    simp only [Tr.even, Bool.and_eq_true, bne_iff_ne, ne_eq] at he
    obtain ⟨hm, he⟩ := he
    obtain ⟨m, rfl⟩ : ∃ m', m = m' + 1 := ⟨m - 1, by omega⟩
    simp only [VCtree] at h
    rw [Array.getElem?_toList] at h
    cases ho : ops[k]? with
    | none => rw [ho] at h; exact h.elim
    | some o =>
      rw [ho, oM_some] at h
      simp only [okTr, Bool.and_eq_true, Bool.not_eq_true', true_and] at hB
      obtain ⟨⟨⟨⟨⟨htd, hr⟩, hfr⟩, hnc⟩, htl⟩, hB⟩ := hB
      obtain rfl := hC htd
      have hr' : k ∈ Region.ready .any ops listed := by simpa using hr
      have hnc' : isCallV o = false := by simpa [notCall, ho] using hnc
      have key : ∃ v T', YV Γ.P ops (Inv Γ M) o v a ∧ Fits n T' (a.put o.dst v) ∧ VCtree Γ n ops r K T' M := by
        rcases guardVC_sound hf h with ⟨hwa, h⟩ | ⟨hwa, h⟩
        · obtain ⟨v, hk, hrun | ⟨hc, _⟩⟩ := VQ_sound h
          · obtain ⟨T', hf', hk'⟩ := putVC_sound hf hk
            exact ⟨v, T', .inl ⟨hwa, by rw [hf.eval]; exact hrun⟩, hf', hk'⟩
          · rw [hnc'] at hc; cases hc
        · obtain ⟨T', hf', hk'⟩ := putVC_sound hf h
          exact ⟨undef, T', .inr ⟨hwa, rfl⟩, hf', hk'⟩
      obtain ⟨v, T', hy, hf', hk'⟩ := key
      exact AnyL_first ho (Region.noSelect_spec hs) (fun _ _ _ h => h) ops.size (fun t ht => List.all_eq_true.1 htl t ht) m listed _ _ a hcl (Region.free_spec ho hfr) hr' (.of_quiet ho hy) (Less.refl _)
        ((ih m td _ _ T' M _ he (hcl.set hr') hk' hf' fun _ => rfl).1 hB)
  | c k r ih =>
    intro m td listed M T L a he hcl h hf hC
    refine ⟨fun hB => ?_, fun hB => by simp [okTr] at hB⟩
    simp only [Tr.even, Bool.and_eq_true, bne_iff_ne, ne_eq] at he
    obtain ⟨hm, he⟩ := he
    obtain ⟨m, rfl⟩ : ∃ m', m = m' + 1 := ⟨m - 1, by omega⟩
    simp only [VCtree] at h
    rw [Array.getElem?_toList] at h
    cases ho : ops[k]? with
    | none => rw [ho] at h; exact h.elim
    | some o =>
      rw [ho, oM_some] at h
      simp only [okTr, Bool.and_eq_true, Bool.not_eq_true', true_and] at hB
      obtain ⟨⟨⟨⟨htd, hr⟩, hfr⟩, htl⟩, hB⟩ := hB
      obtain rfl := hC htd
      have hr' : k ∈ Region.ready .any ops listed := by simpa using hr
      have key : ∃ v T', StepV Γ ops (onlyNormal fun a w => ∃ T L, Fits n T a ∧ Inv Γ L w ∧ K T L) k o v M a ∧ Fits n T' (a.put o.dst v) ∧ VCtree Γ n ops r K T' M := by
        rcases guardVC_sound hf h with ⟨hwa, v, h, hk⟩ | ⟨hwa, h⟩
        · obtain ⟨T', hf', hk'⟩ := putVC_sound hf hk
          refine ⟨v, T', fun a' hs L0 w hl0 hi K hK => ?_, hf', hk'⟩
          unfold wpOp
          simp only [ho]
          have hy := VC_sound (h L0 hl0) w hi
          rw [← hf.eval, ← hs.1] at hy
          rw [hs.2, hwa, if_pos rfl]
          refine .inl ?_
          unfold Oper.wp
          revert hy
          generalize (execOp a'.eval o).run Γ.P w = r
          intro hy
          cases r with
          | halt x w' => exact hy.elim
          | ok nx w' =>
            cases nx <;> first | exact hy.elim | skip
            case value u =>
              obtain ⟨L', hi', rfl, rfl⟩ := hy
              exact hK _ hi'
            case skip =>
              obtain ⟨L', hi', hv, rfl⟩ := hy
              have := hK _ hi'
              rw [← hv] at this
              exact this
            case enter f args =>
              simp only [Oper.upon]
              refine Calls.mono hy ?_
              rintro e w'' ⟨u, L', rfl, hi', rfl, rfl⟩
              exact hK _ hi'
        · obtain ⟨T', hf', hk'⟩ := putVC_sound hf h
          refine ⟨undef, T', fun a' hs L0 w hl0 hi K hK => ?_, hf', hk'⟩
          unfold wpOp
          simp only [ho, hs.2, hwa, Bool.false_eq_true, if_false]
          exact hK w hi
      obtain ⟨v, T', hy, hf', hk'⟩ := key
      exact AnyL_first ho (Region.noSelect_spec hs) (fun _ _ _ h => h) ops.size (fun t ht => List.all_eq_true.1 htl t ht) m listed _ _ a hcl (Region.free_spec ho hfr) hr' hy (Less.refl _)
        ((ih m td _ _ T' M _ he (hcl.set hr') hk' hf' fun _ => rfl).1 hB)
  | e k r s ihr ihs =>
    intro m td listed M T L a he hcl h hf hC
    simp only [Tr.even, Bool.and_eq_true, bne_iff_ne, ne_eq] at he
    obtain ⟨⟨hm, he⟩, hes⟩ := he
    obtain ⟨m, rfl⟩ : ∃ m', m = m' + 1 := ⟨m - 1, by omega⟩
    simp only [VCtree] at h
    obtain ⟨h, hsx⟩ := h
    rw [Array.getElem?_toList] at h
    have core : ∀ hd, okTr ops tl hd td (.e k r s) listed = true → ∀ i ∈ (Tr.e k r s).alts, i ∈ Region.ready .any ops listed → ∀ w, Inv Γ L w → wpOp Γ.P ops (onlyNormal fun a w => ∃ T L, Fits n T a ∧ Inv Γ L w ∧ K T L) i (fun a' w' => ∃ M' L' : Hp, Inv Γ L' w' ∧ Less L' M' ∧ (i ∉ tl → Less M' M) ∧ AnyL Γ ops (onlyNormal fun a w => ∃ T L, Fits n T a ∧ Inv Γ L w ∧ K T L) tl m (listed.setIfInBounds i true) M' L' a') a w := by
      intro hd hB i hi hir w hw
      simp only [okTr, Bool.and_eq_true, Bool.not_eq_true'] at hB
      obtain ⟨⟨⟨⟨⟨_, htd⟩, hnt⟩, hr⟩, hB⟩, hBs⟩ := hB
      obtain rfl := hC htd
      have hr' : k ∈ Region.ready .any ops listed := by simpa using hr
      rcases List.mem_cons.1 (show i ∈ k :: s.alts from hi) with rfl | hi
      · cases ho : ops[i]? with
        | none => rw [ho] at h; exact h.elim
        | some o =>
          rw [ho, oM_some] at h
          refine wpOp_mono ?_ (eff_wpOp ho hf hw (R := fun T L' => Less L' M ∧ VCtree Γ n ops r K T L') (N := fun T L => VCtree Γ n ops r K T L) h)
          rintro a' w' ⟨T', L', hf', hi'', ⟨h2, h3⟩ | ⟨rfl, h3⟩⟩
          · exact ⟨L', L', hi'', Less.refl _, fun _ => h2, (ihr m td _ _ T' L' a' he (hcl.set hr') h3 hf' fun _ => rfl).1 hB⟩
          · exact ⟨L', L', hi'', Less.refl _, fun _ => Less.refl _, (ihr m td _ _ T' L' a' he (hcl.set hr') h3 hf' fun _ => rfl).1 hB⟩
      · have := ((ihs (m + 1) td listed _ T M a hes hcl hsx hf fun _ => rfl).2 hBs i hi hir w hw).2
        rwa [Nat.add_sub_cancel] at this
    refine ⟨fun hB => ⟨fun h0 => ?_, fun i hi w hw => core true hB i ?_ hi w hw⟩, fun hB i hi hir w hw => ⟨by omega, core false hB i hi hir w hw⟩⟩
    · simp only [okTr, Bool.and_eq_true] at hB
      have hr := hB.1.1.2
      rw [h0] at hr
      simp at hr
    · simp only [okTr, Bool.and_eq_true, Bool.not_true, Bool.false_or] at hB
      have := List.all_eq_true.1 hB.1.1.1.1.1 i hi
      simpa using this
  | t k r ih =>
    intro m td listed M T L a he hcl h hf hC
    refine ⟨fun hB => ?_, fun hB => by simp [okTr] at hB⟩
    simp only [Tr.even, Bool.and_eq_true, bne_iff_ne, ne_eq] at he
    obtain ⟨hm, he⟩ := he
    obtain ⟨m, rfl⟩ : ∃ m', m = m' + 1 := ⟨m - 1, by omega⟩
    simp only [VCtree] at h
    rw [Array.getElem?_toList] at h
    cases ho : ops[k]? with
    | none => rw [ho] at h; exact h.elim
    | some o =>
      rw [ho, oM_some] at h
      simp only [okTr, Bool.and_eq_true, decide_eq_true_eq, true_and] at hB
      obtain ⟨⟨hr, hnt⟩, hB⟩ := hB
      have hr' : k ∈ Region.ready .any ops listed := by rw [hr]; simp
      refine ⟨fun h0 => (by rw [h0] at hr; cases hr), fun i hi' w hi => ?_⟩
      rw [hr] at hi'
      have hik : i = k := by simpa using hi'
      subst hik
      have hmem : i ∈ tl := by simpa using hnt
      refine wpOp_mono ?_ (eff_wpOp ho hf hi (R := fun T L' => VCtree Γ n ops r K T L') (N := fun T L => VCtree Γ n ops r K T L) h)
      rintro a' w' ⟨T', L', hf', hi'', h3 | ⟨rfl, h3⟩⟩
      · exact ⟨[], L', hi'', Less.nil _, fun hn => absurd hmem hn, (ih m true _ _ T' L' a' he (hcl.set hr') h3 hf' fun h => by cases h).1 hB⟩
      · exact ⟨[], L', hi'', Less.nil _, fun hn => absurd hmem hn, (ih m true _ _ T' L' a' he (hcl.set hr') h3 hf' fun h => by cases h).1 hB⟩

theorem SX.tree {id : Nat} {l : List Oper} (pl : Tr) (hm : Γ.P.follows .mixedOrders = true) (hB : treeB l.toArray pl = true)
    (h : VCtree Γ n l.toArray pl (Q .normal) T L) : SX Γ n (.region id l.toArray true) Q T L := fun a w hf hi => by
  simp only [treeB, Bool.and_eq_true] at hB
  obtain ⟨⟨hs, hev⟩, hB⟩ := hB
  have H := (tree_sound (K := Q .normal) (tl := pl.tails) hs pl _ false _ L T L a hev (Closed.zero _) h hf fun _ => rfl).1 hB
  have H2 := wp_region_any (id := id) hm (H.any _ _ _ _ _ _ hi.drewR)
  refine Code.wp_mono (fun e a w he => ?_) H2
  cases e <;> first | exact he | exact (he : False).elim
theorem SX.tree_d {id : Nat} {l : List Oper} (pl : Tr) (hm : Γ.P.follows .mixedOrders = true) (hB : treeB l.toArray pl = true) (ds : List (Option Tmp)) (hd : l.map (fun o : Oper => o.dst) = ds)
    (h : ∀ ops : Array Oper, Dsts ops ds → (∀ k : Nat, ops.toList[k]? = l[k]?) → VCtree Γ n ops pl (Q .normal) T L) : SX Γ n (.region id l.toArray true) Q T L := SX.tree pl hm hB (h _ (dsts_of hd) fun _ => rfl)
end
def VCtreeH (Γ : Ctx) (n : Nat) (ops : Array Oper) (pl : Tr) (K : (Env → Hp → Prop)) (T : Env) (L : Hp) (_ : Dk ops) (_ : Dk K) (_ : Dk T) (_ : Dk L) : Prop := VCtree Γ n ops pl K T L
section
variable {Γ : Ctx} {n : Nat} {ops : Array Oper} {T : Env} {L : Hp} {Q : Env → Hp → Prop} {k : Nat} {r s : Tr}
theorem tree_H {pl : Tr} : VCtree Γ n ops pl Q T L = VCtreeH Γ n ops pl Q T L () () () () := rfl
theorem tree_nilH : VCtreeH Γ n ops .nil Q T L () () () () = Q T L := rfl
theorem tree_zH : VCtreeH Γ n ops .z Q T L () () () () = True := rfl
theorem tree_qH : VCtreeH Γ n ops (.q k r) Q T L () () () () = oMH (ops.toList[k]?) (fun o => guardVCH ops o.guard T (fun T => VQH Γ o T L (fun v => putVCH n o.dst v T (fun T => VCtreeH Γ n ops r Q T L () () () ()) () ()) () () () ()) (fun T => putVCH n o.dst undef T (fun T => VCtreeH Γ n ops r Q T L () () () ()) () ()) () () () ()) False () () := rfl
theorem tree_cH : VCtreeH Γ n ops (.c k r) Q T L () () () () = oMH (ops.toList[k]?) (fun o => guardVCH ops o.guard T (fun T => ∃ v, (∀ L0, Less L0 L → VCH Γ o T L0 (fun u L1 => u = v ∧ L1 = L0) () () () ()) ∧ putVCH n o.dst v T (fun T => VCtreeH Γ n ops r Q T L () () () ()) () ()) (fun T => putVCH n o.dst undef T (fun T => VCtreeH Γ n ops r Q T L () () () ()) () ()) () () () ()) False () () := rfl
/-- The ways at a fork are seen to one by one. -/
theorem tree_eH : VCtreeH Γ n ops (.e k r s) Q T L () () () () = (stK (oMH (ops.toList[k]?) (fun o => guardVCH ops o.guard T (fun T => VCH Γ o T L (fun v L' => putVCH n o.dst v T (fun T => Less L' L ∧ VCtreeH Γ n ops r Q T L' () () () ()) () ()) () () () ()) (fun T => putVCH n o.dst undef T (fun T => VCtreeH Γ n ops r Q T L () () () ()) () ()) () () () ()) False () ()) () ∧ stK (VCtreeH Γ n ops s Q T L () () () ()) ()) := by
  rw [stK_e, stK_e]; rfl
theorem tree_e1H : VCtreeH Γ n ops (.e k r .z) Q T L () () () () = oMH (ops.toList[k]?) (fun o => guardVCH ops o.guard T (fun T => VCH Γ o T L (fun v L' => putVCH n o.dst v T (fun T => Less L' L ∧ VCtreeH Γ n ops r Q T L' () () () ()) () ()) () () () ()) (fun T => putVCH n o.dst undef T (fun T => VCtreeH Γ n ops r Q T L () () () ()) () ()) () () () ()) False () () := by
  show (_ ∧ True) = _
  rw [and_true]; rfl
theorem tree_tH : VCtreeH Γ n ops (.t k r) Q T L () () () () = oMH (ops.toList[k]?) (fun o => guardVCH ops o.guard T (fun T => VCH Γ o T L (fun v L' => putVCH n o.dst v T (fun T => VCtreeH Γ n ops r Q T L' () () () ()) () ()) () () () ()) (fun T => putVCH n o.dst undef T (fun T => VCtreeH Γ n ops r Q T L () () () ()) () ()) () () () ()) False () () := rfl
end
end Go.SX
namespace Go.SX
attribute [go_sem] tree_H tree_nilH tree_zH tree_qH tree_cH tree_tH tree_e1H
attribute [go_sem low] tree_eH
theorem Less.swap0 (a b : Slot) (L : Hp) : Less (a :: b :: L) (b :: a :: L) := Less.perm (List.Perm.swap _ _ _)
theorem Less.swap1 (x a b : Slot) (L : Hp) : Less (x :: a :: b :: L) (x :: b :: a :: L) := Less.perm (.cons _ (List.Perm.swap _ _ _))
end Go.SX
set_option linter.unusedVariables false
set_option linter.unusedSimpArgs false
namespace Go.Proofs.Ytgioegdjeodpiaa
open Go.RowKit Go.SX
open Go.SX renaming ia_someH → Φa

def newG (p : List Int) : GM × Int := if 3232 < p.length then (zeroG, 2) else (⟨List.replicate 16 0, 0, 512, [], 0, 0, List.replicate 256 0, p ++ List.replicate (3232 - p.length) 0⟩, 0)
def newR (r : GM × Int) (L : Hp) (v : Value) (L' : Hp) : Prop := ∃ sv pv mv s1 s2 s3, v = .tuple #[.agg (r.1.cells sv pv mv).toArray, .int .i64 r.2] ∧ L' = s1 :: s2 :: s3 :: L ∧ Rows r.1 sv pv mv s1 s2 s3
theorem zerosI (k : IntKind) (n : Nat) : zerosV [.int k 0] n = ints k (List.replicate n 0) := by simp [zerosV, ints]
theorem copied {k : IntKind} {p : List Int} {n : Nat} (h : p.length ≤ n) : ints k (p.take n) ++ (zerosV [.int k 0] n).drop (min p.length n) = ints k (p ++ List.replicate (n - p.length) 0) := by
  rw [zerosI, List.take_of_length_le h, Nat.min_eq_left h, ints_app]
  congr 1
  simp [ints]
theorem rowFull {k : IntKind} {e b n : Nat} {l : List Int} (h : l.length = n) (hb : n ≤ 9223372036854775807 := by omega) : RowI k e (.slice (some ⟨b, 0, none⟩) n n) l (some (b, .cells (ints k l).toArray e (0, 0))) := by
  subst h
  exact ⟨by rw [ints_length, Nat.mul_one], .inr ⟨b, l.length, [], rfl, by rw [List.append_nil], ⟨Nat.le_refl _, hb⟩, by simp [ints_length]⟩⟩
set_option maxHeartbeats 1000000 in
set_option maxRecDepth 100000 in
theorem New_spec {Γ : Ctx} (hP : Γ.P = Try.prog) {L : Hp} {v : Value} {p : List Int} (hp : SlI .u8 (Cell Γ L) v p) (hpl : p.length ≤ 9223372036854775807) :
    SCall Γ 13 #[v] L (newR (newG p) L) := by
  obtain ⟨A, c, rfl, hc, hA⟩ := id hp
  refine SCall.enter (n := 17) (resX Γ [.cell 2 29, .tmp 3]) (hP ▸ Try.func13) rfl rfl (by simp) (resX_ok rfl) ?_
  refine SX.seq_k fun K1 hK1 => ?_
  refine SX.region_d [some 2, some 3] rfl (fun ops hops => ?_)
  unfold Dsts at hops
  simp (maxSteps:=1000000)(dsimp:=false)(disch:=omega) only [go_sem, Φa, hP, hops]
  intro g0
  try with_reducible refine stI ?_
  try simp (maxSteps:=1000000)(dsimp:=false)(disch:=omega) only [go_sem, Φa, hP, hops]
  refine hK1 _ _ ?_
  try clear hK1 K1
  refine SX.seq_k fun K2 hK2 => ?_
  refine SX.seq_k fun K3 hK3 => ?_
  refine SX.region_d [some 5, some 6, some 7] rfl (fun ops hops => ?_)
  unfold Dsts at hops
  simp (maxSteps:=1000000)(dsimp:=false)(disch:=omega) only [go_sem, Φa, hP, hops]
  repeat' ((first | refine And.intro (by omega) ?_ | fail); try (with_reducible refine stI ?_); try simp (maxSteps:=1000000)(dsimp:=false)(disch:=omega) only [go_sem, Φa, hP, hops])
  refine hK3 _ _ ?_
  try clear hK3 K3
  refine SX.cond_k fun X4 Y4 hX4 hY4 => ?_
  simp (maxSteps:=1000000)(dsimp:=false)(disch:=omega) only [go_sem, Φa, hP, condVC]
  refine ⟨fun hc7 => hX4 ?_, fun hc7 => hY4 ?_⟩
  · clear hX4 hY4 X4 Y4
    refine SX.seq_k fun K5 hK5 => ?_
    refine SX.region_d [some 8, none, some 3] rfl (fun ops hops => ?_)
    unfold Dsts at hops
    simp (maxSteps:=1000000)(dsimp:=false)(disch:=omega) only [go_sem, Φa, hP, hops]
    refine ⟨0, _, _, _, rfl, by decide, .inr (by decide), ?_⟩
    try with_reducible refine stI ?_
    try simp (maxSteps:=1000000)(dsimp:=false)(disch:=omega) only [go_sem, Φa, hP, hops]
    refine hK5 _ _ ?_
    try clear hK5 K5
    refine SX.ret ?_
    simp only [andThen_normal, andThen_ret, andThen_exit, inBlk_normal, inBlk_ret, inBlk_exit, Nat.reduceEqDiff, if_true, if_false, ↓reduceIte, retQ_ret]
    try simp only [res0,res1,res2,res3,stK_e,resX,resK,oneOr,ld_ptr,loadVC,loadN,List.nil_append,List.cons_append,Nat.reduceAdd,Nat.add_zero,Nat.zero_add,Addr.add_lit,Addr.add_zero',add_addS,T.elA_29,T.lay_29,T.szA_29,T.zr_29,Try.underlying29,go_sem,Φa,hP]
    refine ⟨_, _, (Less.drop _ _).trans ((Less.none _).trans ((Less.none _).trans (Less.none _))), ⟨_, Cell.at 0 rfl rfl, _, Cell.at 0 rfl rfl, _, Cell.at 0 rfl rfl, _, Cell.at 0 rfl rfl, _, Cell.at 0 rfl rfl, _, Cell.at 0 rfl rfl, _, Cell.at 0 rfl rfl, _, Cell.at 0 rfl rfl, _, Cell.at 0 rfl rfl, _, Cell.at 0 rfl rfl, _, Cell.at 0 rfl rfl, _, Cell.at 0 rfl rfl, _, Cell.at 0 rfl rfl, _, Cell.at 0 rfl rfl, _, Cell.at 0 rfl rfl, _, Cell.at 0 rfl rfl, _, Cell.at 0 rfl rfl, _, Cell.at 0 rfl rfl, _, Cell.at 0 rfl rfl, _, Cell.at 0 rfl rfl, _, Cell.at 0 rfl rfl, _, Cell.at 0 rfl rfl, _, Cell.at 0 rfl rfl, rfl⟩, ?_⟩
    unfold newG
    rw [if_pos (by omega)]
    exact ⟨_, _, _, _, _, _, rfl, rfl, ⟨RowI.nil _ _, RowI.nil _ _, RowI.nil _ _⟩⟩
  · clear hX4 hY4 X4 Y4
    refine SX.skip ?_
    try simp only [andThen_normal, andThen_ret, andThen_exit, inBlk_normal, inBlk_ret, inBlk_exit, Nat.reduceEqDiff, if_true, if_false, ↓reduceIte]
    refine hK2 _ _ ?_
    try clear hK2 K2
    refine SX.live [0, 2] (fun T1 hT1 => ?_)
    simp only [forall_mem_cons', forall_mem_nil', go_sem, Φa, hP] at hT1
    obtain ⟨h1_0, h1_2⟩ := hT1
    refine SX.join (fun (ss : (Nat) × (Nat) × (Nat)) T L' => (fun (b0 : Nat) (b1 : Nat) (b3 : Nat) => T 4 = .pointer (some ⟨b3, 0, none⟩) ∧ T 0 = T1 0 ∧ T 2 = T1 2 ∧ L' = some (b3, .cells #[.int .u8 0, .int .u8 0, .int .u8 0, .int .u8 0, .int .u8 0, .int .u8 0, .int .u8 0, .int .u8 0, .int .u8 0, .int .u8 0, .int .u8 0, .int .u8 0, .int .u8 0, .int .u8 0, .int .u8 0, .int .u8 0, .int .u16 0, .int .u16 512, .slice none 0 0, .int .u8 0, .int .u8 0, .slice (some ⟨b0, 0, none⟩) 256 256, .slice (some ⟨b1, 0, none⟩) 3232 3232] 29 (0, 0)) :: some (b1, .cells (zerosV [.int .u8 0] 3232).toArray 5 (0, 0)) :: some (b0, .cells (zerosV [.int .u8 0] 256).toArray 5 (0, 0)) :: some (g0, .cells #[.int .u8 0, .int .u8 0, .int .u8 0, .int .u8 0, .int .u8 0, .int .u8 0, .int .u8 0, .int .u8 0, .int .u8 0, .int .u8 0, .int .u8 0, .int .u8 0, .int .u8 0, .int .u8 0, .int .u8 0, .int .u8 0, .int .u16 0, .int .u16 0, .slice none 0 0, .int .u8 0, .int .u8 0, .slice none 0 0, .slice none 0 0] 29 (0, 0)) :: L ∧ (True)) (ss.1) (ss.2.1) (ss.2.2)) (fun K6 hK6 => ?_) ?_
    · simp only [h1_0, h1_2] at hK6
      refine SX.tree_d (.e 0 (.e 1 (.q 2 (.e 3 (.t 4 (.nil)) (.z))) (.e 3 (.e 1 (.q 2 (.t 4 (.nil))) (.z)) (.z))) (.e 1 (.e 0 (.q 2 (.e 3 (.t 4 (.nil)) (.z))) (.e 3 (.e 0 (.q 2 (.t 4 (.nil))) (.z)) (.z))) (.e 3 (.e 0 (.e 1 (.q 2 (.t 4 (.nil))) (.z)) (.e 1 (.e 0 (.q 2 (.t 4 (.nil))) (.z)) (.z))) (.z)))) (hP ▸ T.mixed) (by kernel_rfl) [some 9, some 10, some 11, some 4, none] rfl (fun ops hops hopl => ?_)
      unfold Dsts at hops
      simp (maxSteps:=1000000)(dsimp:=false)(disch:=omega) only [go_sem, Φa, hP, h1_0, h1_2, hops, hopl]
      refine And.intro ?_ ?_
      · try with_reducible refine stI ?_
        try simp (maxSteps:=1000000)(dsimp:=false)(disch:=omega) only [go_sem, Φa, hP, h1_0, h1_2, hops, hopl]
        intro b0
        try with_reducible refine stI ?_
        try simp (maxSteps:=1000000)(dsimp:=false)(disch:=omega) only [go_sem, Φa, hP, h1_0, h1_2, hops, hopl]
        try with_reducible refine And.intro (Less.drop _ _) ?_
        try with_reducible refine stI ?_
        try simp (maxSteps:=1000000)(dsimp:=false)(disch:=omega) only [go_sem, Φa, hP, h1_0, h1_2, hops, hopl]
        refine And.intro ?_ ?_
        · try with_reducible refine stI ?_
          try simp (maxSteps:=1000000)(dsimp:=false)(disch:=omega) only [go_sem, Φa, hP, h1_0, h1_2, hops, hopl]
          intro b1
          try with_reducible refine stI ?_
          try simp (maxSteps:=1000000)(dsimp:=false)(disch:=omega) only [go_sem, Φa, hP, h1_0, h1_2, hops, hopl]
          try with_reducible refine And.intro (Less.drop _ _) ?_
          try with_reducible refine stI ?_
          try simp (maxSteps:=1000000)(dsimp:=false)(disch:=omega) only [go_sem, Φa, hP, h1_0, h1_2, hops, hopl]
          intro b3
          try with_reducible refine stI ?_
          try simp (maxSteps:=1000000)(dsimp:=false)(disch:=omega) only [go_sem, Φa, hP, h1_0, h1_2, hops, hopl]
          try with_reducible refine And.intro (Less.drop _ _) ?_
          try with_reducible refine stI ?_
          try simp (maxSteps:=1000000)(dsimp:=false)(disch:=omega) only [go_sem, Φa, hP, h1_0, h1_2, hops, hopl]
          refine ⟨0, _, _, _, rfl, by decide, .inr (by decide), ?_⟩
          try with_reducible refine stI ?_
          try simp (maxSteps:=1000000)(dsimp:=false)(disch:=omega) only [go_sem, Φa, hP, h1_0, h1_2, hops, hopl]
          refine hK6 (b0, b1, b3) _ (some (b3, .cells #[.int .u8 0, .int .u8 0, .int .u8 0, .int .u8 0, .int .u8 0, .int .u8 0, .int .u8 0, .int .u8 0, .int .u8 0, .int .u8 0, .int .u8 0, .int .u8 0, .int .u8 0, .int .u8 0, .int .u8 0, .int .u8 0, .int .u16 0, .int .u16 512, .slice none 0 0, .int .u8 0, .int .u8 0, .slice (some ⟨b0, 0, none⟩) 256 256, .slice (some ⟨b1, 0, none⟩) 3232 3232] 29 (0, 0)) :: some (b1, .cells (zerosV [.int .u8 0] 3232).toArray 5 (0, 0)) :: some (b0, .cells (zerosV [.int .u8 0] 256).toArray 5 (0, 0)) :: some (g0, .cells #[.int .u8 0, .int .u8 0, .int .u8 0, .int .u8 0, .int .u8 0, .int .u8 0, .int .u8 0, .int .u8 0, .int .u8 0, .int .u8 0, .int .u8 0, .int .u8 0, .int .u8 0, .int .u8 0, .int .u8 0, .int .u8 0, .int .u16 0, .int .u16 0, .slice none 0 0, .int .u8 0, .int .u8 0, .slice none 0 0, .slice none 0 0] 29 (0, 0)) :: L) _ (by exact Less.refl _) ?_
          try dsimp only
          refine ⟨?_, ?_, ?_, ?_, ?_⟩
          · simp (maxSteps:=1000000)(dsimp:=false)(disch:=omega) only [go_sem, Φa, hP, h1_0, h1_2]
            first | done | rfl | skip
          · simp (maxSteps:=1000000)(dsimp:=false)(disch:=omega) only [go_sem, Φa, hP, h1_0, h1_2]
          · simp (maxSteps:=1000000)(dsimp:=false)(disch:=omega) only [go_sem, Φa, hP, h1_0, h1_2]
          · rfl
          · trivial
        · try with_reducible refine stI ?_
          try simp (maxSteps:=1000000)(dsimp:=false)(disch:=omega) only [go_sem, Φa, hP, h1_0, h1_2, hops, hopl]
          intro b3
          try with_reducible refine stI ?_
          try simp (maxSteps:=1000000)(dsimp:=false)(disch:=omega) only [go_sem, Φa, hP, h1_0, h1_2, hops, hopl]
          try with_reducible refine And.intro (Less.drop _ _) ?_
          try with_reducible refine stI ?_
          try simp (maxSteps:=1000000)(dsimp:=false)(disch:=omega) only [go_sem, Φa, hP, h1_0, h1_2, hops, hopl]
          intro b1
          try with_reducible refine stI ?_
          try simp (maxSteps:=1000000)(dsimp:=false)(disch:=omega) only [go_sem, Φa, hP, h1_0, h1_2, hops, hopl]
          try with_reducible refine And.intro (Less.drop _ _) ?_
          try with_reducible refine stI ?_
          try simp (maxSteps:=1000000)(dsimp:=false)(disch:=omega) only [go_sem, Φa, hP, h1_0, h1_2, hops, hopl]
          refine ⟨1, _, _, _, rfl, by decide, .inr (by decide), ?_⟩
          try with_reducible refine stI ?_
          try simp (maxSteps:=1000000)(dsimp:=false)(disch:=omega) only [go_sem, Φa, hP, h1_0, h1_2, hops, hopl]
          refine hK6 (b0, b1, b3) _ (some (b3, .cells #[.int .u8 0, .int .u8 0, .int .u8 0, .int .u8 0, .int .u8 0, .int .u8 0, .int .u8 0, .int .u8 0, .int .u8 0, .int .u8 0, .int .u8 0, .int .u8 0, .int .u8 0, .int .u8 0, .int .u8 0, .int .u8 0, .int .u16 0, .int .u16 512, .slice none 0 0, .int .u8 0, .int .u8 0, .slice (some ⟨b0, 0, none⟩) 256 256, .slice (some ⟨b1, 0, none⟩) 3232 3232] 29 (0, 0)) :: some (b1, .cells (zerosV [.int .u8 0] 3232).toArray 5 (0, 0)) :: some (b0, .cells (zerosV [.int .u8 0] 256).toArray 5 (0, 0)) :: some (g0, .cells #[.int .u8 0, .int .u8 0, .int .u8 0, .int .u8 0, .int .u8 0, .int .u8 0, .int .u8 0, .int .u8 0, .int .u8 0, .int .u8 0, .int .u8 0, .int .u8 0, .int .u8 0, .int .u8 0, .int .u8 0, .int .u8 0, .int .u16 0, .int .u16 0, .slice none 0 0, .int .u8 0, .int .u8 0, .slice none 0 0, .slice none 0 0] 29 (0, 0)) :: L) _ (by exact (Less.swap0 _ _ _)) ?_
          try dsimp only
          refine ⟨?_, ?_, ?_, ?_, ?_⟩
          · simp (maxSteps:=1000000)(dsimp:=false)(disch:=omega) only [go_sem, Φa, hP, h1_0, h1_2]
            first | done | rfl | skip
          · simp (maxSteps:=1000000)(dsimp:=false)(disch:=omega) only [go_sem, Φa, hP, h1_0, h1_2]
          · simp (maxSteps:=1000000)(dsimp:=false)(disch:=omega) only [go_sem, Φa, hP, h1_0, h1_2]
          · rfl
          · trivial
      · try with_reducible refine stI ?_
        try simp (maxSteps:=1000000)(dsimp:=false)(disch:=omega) only [go_sem, Φa, hP, h1_0, h1_2, hops, hopl]
        refine And.intro ?_ ?_
        · try with_reducible refine stI ?_
          try simp (maxSteps:=1000000)(dsimp:=false)(disch:=omega) only [go_sem, Φa, hP, h1_0, h1_2, hops, hopl]
          intro b1
          try with_reducible refine stI ?_
          try simp (maxSteps:=1000000)(dsimp:=false)(disch:=omega) only [go_sem, Φa, hP, h1_0, h1_2, hops, hopl]
          try with_reducible refine And.intro (Less.drop _ _) ?_
          try with_reducible refine stI ?_
          try simp (maxSteps:=1000000)(dsimp:=false)(disch:=omega) only [go_sem, Φa, hP, h1_0, h1_2, hops, hopl]
          refine And.intro ?_ ?_
          · try with_reducible refine stI ?_
            try simp (maxSteps:=1000000)(dsimp:=false)(disch:=omega) only [go_sem, Φa, hP, h1_0, h1_2, hops, hopl]
            intro b0
            try with_reducible refine stI ?_
            try simp (maxSteps:=1000000)(dsimp:=false)(disch:=omega) only [go_sem, Φa, hP, h1_0, h1_2, hops, hopl]
            try with_reducible refine And.intro (Less.drop _ _) ?_
            try with_reducible refine stI ?_
            try simp (maxSteps:=1000000)(dsimp:=false)(disch:=omega) only [go_sem, Φa, hP, h1_0, h1_2, hops, hopl]
            intro b3
            try with_reducible refine stI ?_
            try simp (maxSteps:=1000000)(dsimp:=false)(disch:=omega) only [go_sem, Φa, hP, h1_0, h1_2, hops, hopl]
            try with_reducible refine And.intro (Less.drop _ _) ?_
            try with_reducible refine stI ?_
            try simp (maxSteps:=1000000)(dsimp:=false)(disch:=omega) only [go_sem, Φa, hP, h1_0, h1_2, hops, hopl]
            refine ⟨0, _, _, _, rfl, by decide, .inr (by decide), ?_⟩
            try with_reducible refine stI ?_
            try simp (maxSteps:=1000000)(dsimp:=false)(disch:=omega) only [go_sem, Φa, hP, h1_0, h1_2, hops, hopl]
            refine hK6 (b0, b1, b3) _ (some (b3, .cells #[.int .u8 0, .int .u8 0, .int .u8 0, .int .u8 0, .int .u8 0, .int .u8 0, .int .u8 0, .int .u8 0, .int .u8 0, .int .u8 0, .int .u8 0, .int .u8 0, .int .u8 0, .int .u8 0, .int .u8 0, .int .u8 0, .int .u16 0, .int .u16 512, .slice none 0 0, .int .u8 0, .int .u8 0, .slice (some ⟨b0, 0, none⟩) 256 256, .slice (some ⟨b1, 0, none⟩) 3232 3232] 29 (0, 0)) :: some (b1, .cells (zerosV [.int .u8 0] 3232).toArray 5 (0, 0)) :: some (b0, .cells (zerosV [.int .u8 0] 256).toArray 5 (0, 0)) :: some (g0, .cells #[.int .u8 0, .int .u8 0, .int .u8 0, .int .u8 0, .int .u8 0, .int .u8 0, .int .u8 0, .int .u8 0, .int .u8 0, .int .u8 0, .int .u8 0, .int .u8 0, .int .u8 0, .int .u8 0, .int .u8 0, .int .u8 0, .int .u16 0, .int .u16 0, .slice none 0 0, .int .u8 0, .int .u8 0, .slice none 0 0, .slice none 0 0] 29 (0, 0)) :: L) _ (by exact (Less.swap1 _ _ _ _)) ?_
            try dsimp only
            refine ⟨?_, ?_, ?_, ?_, ?_⟩
            · simp (maxSteps:=1000000)(dsimp:=false)(disch:=omega) only [go_sem, Φa, hP, h1_0, h1_2]
              first | done | rfl | skip
            · simp (maxSteps:=1000000)(dsimp:=false)(disch:=omega) only [go_sem, Φa, hP, h1_0, h1_2]
            · simp (maxSteps:=1000000)(dsimp:=false)(disch:=omega) only [go_sem, Φa, hP, h1_0, h1_2]
            · rfl
            · trivial
          · try with_reducible refine stI ?_
            try simp (maxSteps:=1000000)(dsimp:=false)(disch:=omega) only [go_sem, Φa, hP, h1_0, h1_2, hops, hopl]
            intro b3
            try with_reducible refine stI ?_
            try simp (maxSteps:=1000000)(dsimp:=false)(disch:=omega) only [go_sem, Φa, hP, h1_0, h1_2, hops, hopl]
            try with_reducible refine And.intro (Less.drop _ _) ?_
            try with_reducible refine stI ?_
            try simp (maxSteps:=1000000)(dsimp:=false)(disch:=omega) only [go_sem, Φa, hP, h1_0, h1_2, hops, hopl]
            intro b0
            try with_reducible refine stI ?_
            try simp (maxSteps:=1000000)(dsimp:=false)(disch:=omega) only [go_sem, Φa, hP, h1_0, h1_2, hops, hopl]
            try with_reducible refine And.intro (Less.drop _ _) ?_
            try with_reducible refine stI ?_
            try simp (maxSteps:=1000000)(dsimp:=false)(disch:=omega) only [go_sem, Φa, hP, h1_0, h1_2, hops, hopl]
            refine ⟨1, _, _, _, rfl, by decide, .inr (by decide), ?_⟩
            try with_reducible refine stI ?_
            try simp (maxSteps:=1000000)(dsimp:=false)(disch:=omega) only [go_sem, Φa, hP, h1_0, h1_2, hops, hopl]
            refine hK6 (b0, b1, b3) _ (some (b3, .cells #[.int .u8 0, .int .u8 0, .int .u8 0, .int .u8 0, .int .u8 0, .int .u8 0, .int .u8 0, .int .u8 0, .int .u8 0, .int .u8 0, .int .u8 0, .int .u8 0, .int .u8 0, .int .u8 0, .int .u8 0, .int .u8 0, .int .u16 0, .int .u16 512, .slice none 0 0, .int .u8 0, .int .u8 0, .slice (some ⟨b0, 0, none⟩) 256 256, .slice (some ⟨b1, 0, none⟩) 3232 3232] 29 (0, 0)) :: some (b1, .cells (zerosV [.int .u8 0] 3232).toArray 5 (0, 0)) :: some (b0, .cells (zerosV [.int .u8 0] 256).toArray 5 (0, 0)) :: some (g0, .cells #[.int .u8 0, .int .u8 0, .int .u8 0, .int .u8 0, .int .u8 0, .int .u8 0, .int .u8 0, .int .u8 0, .int .u8 0, .int .u8 0, .int .u8 0, .int .u8 0, .int .u8 0, .int .u8 0, .int .u8 0, .int .u8 0, .int .u16 0, .int .u16 0, .slice none 0 0, .int .u8 0, .int .u8 0, .slice none 0 0, .slice none 0 0] 29 (0, 0)) :: L) _ (by exact Less.trans (Less.swap0 _ _ _) (Less.swap1 _ _ _ _)) ?_
            try dsimp only
            refine ⟨?_, ?_, ?_, ?_, ?_⟩
            · simp (maxSteps:=1000000)(dsimp:=false)(disch:=omega) only [go_sem, Φa, hP, h1_0, h1_2]
              first | done | rfl | skip
            · simp (maxSteps:=1000000)(dsimp:=false)(disch:=omega) only [go_sem, Φa, hP, h1_0, h1_2]
            · simp (maxSteps:=1000000)(dsimp:=false)(disch:=omega) only [go_sem, Φa, hP, h1_0, h1_2]
            · rfl
            · trivial
        · try with_reducible refine stI ?_
          try simp (maxSteps:=1000000)(dsimp:=false)(disch:=omega) only [go_sem, Φa, hP, h1_0, h1_2, hops, hopl]
          intro b3
          try with_reducible refine stI ?_
          try simp (maxSteps:=1000000)(dsimp:=false)(disch:=omega) only [go_sem, Φa, hP, h1_0, h1_2, hops, hopl]
          try with_reducible refine And.intro (Less.drop _ _) ?_
          try with_reducible refine stI ?_
          try simp (maxSteps:=1000000)(dsimp:=false)(disch:=omega) only [go_sem, Φa, hP, h1_0, h1_2, hops, hopl]
          refine And.intro ?_ ?_
          · try with_reducible refine stI ?_
            try simp (maxSteps:=1000000)(dsimp:=false)(disch:=omega) only [go_sem, Φa, hP, h1_0, h1_2, hops, hopl]
            intro b0
            try with_reducible refine stI ?_
            try simp (maxSteps:=1000000)(dsimp:=false)(disch:=omega) only [go_sem, Φa, hP, h1_0, h1_2, hops, hopl]
            try with_reducible refine And.intro (Less.drop _ _) ?_
            try with_reducible refine stI ?_
            try simp (maxSteps:=1000000)(dsimp:=false)(disch:=omega) only [go_sem, Φa, hP, h1_0, h1_2, hops, hopl]
            intro b1
            try with_reducible refine stI ?_
            try simp (maxSteps:=1000000)(dsimp:=false)(disch:=omega) only [go_sem, Φa, hP, h1_0, h1_2, hops, hopl]
            try with_reducible refine And.intro (Less.drop _ _) ?_
            try with_reducible refine stI ?_
            try simp (maxSteps:=1000000)(dsimp:=false)(disch:=omega) only [go_sem, Φa, hP, h1_0, h1_2, hops, hopl]
            refine ⟨2, _, _, _, rfl, by decide, .inr (by decide), ?_⟩
            try with_reducible refine stI ?_
            try simp (maxSteps:=1000000)(dsimp:=false)(disch:=omega) only [go_sem, Φa, hP, h1_0, h1_2, hops, hopl]
            refine hK6 (b0, b1, b3) _ (some (b3, .cells #[.int .u8 0, .int .u8 0, .int .u8 0, .int .u8 0, .int .u8 0, .int .u8 0, .int .u8 0, .int .u8 0, .int .u8 0, .int .u8 0, .int .u8 0, .int .u8 0, .int .u8 0, .int .u8 0, .int .u8 0, .int .u8 0, .int .u16 0, .int .u16 512, .slice none 0 0, .int .u8 0, .int .u8 0, .slice (some ⟨b0, 0, none⟩) 256 256, .slice (some ⟨b1, 0, none⟩) 3232 3232] 29 (0, 0)) :: some (b1, .cells (zerosV [.int .u8 0] 3232).toArray 5 (0, 0)) :: some (b0, .cells (zerosV [.int .u8 0] 256).toArray 5 (0, 0)) :: some (g0, .cells #[.int .u8 0, .int .u8 0, .int .u8 0, .int .u8 0, .int .u8 0, .int .u8 0, .int .u8 0, .int .u8 0, .int .u8 0, .int .u8 0, .int .u8 0, .int .u8 0, .int .u8 0, .int .u8 0, .int .u8 0, .int .u8 0, .int .u16 0, .int .u16 0, .slice none 0 0, .int .u8 0, .int .u8 0, .slice none 0 0, .slice none 0 0] 29 (0, 0)) :: L) _ (by exact Less.trans (Less.swap1 _ _ _ _) (Less.swap0 _ _ _)) ?_
            try dsimp only
            refine ⟨?_, ?_, ?_, ?_, ?_⟩
            · simp (maxSteps:=1000000)(dsimp:=false)(disch:=omega) only [go_sem, Φa, hP, h1_0, h1_2]
              first | done | rfl | skip
            · simp (maxSteps:=1000000)(dsimp:=false)(disch:=omega) only [go_sem, Φa, hP, h1_0, h1_2]
            · simp (maxSteps:=1000000)(dsimp:=false)(disch:=omega) only [go_sem, Φa, hP, h1_0, h1_2]
            · rfl
            · trivial
          · try with_reducible refine stI ?_
            try simp (maxSteps:=1000000)(dsimp:=false)(disch:=omega) only [go_sem, Φa, hP, h1_0, h1_2, hops, hopl]
            intro b1
            try with_reducible refine stI ?_
            try simp (maxSteps:=1000000)(dsimp:=false)(disch:=omega) only [go_sem, Φa, hP, h1_0, h1_2, hops, hopl]
            try with_reducible refine And.intro (Less.drop _ _) ?_
            try with_reducible refine stI ?_
            try simp (maxSteps:=1000000)(dsimp:=false)(disch:=omega) only [go_sem, Φa, hP, h1_0, h1_2, hops, hopl]
            intro b0
            try with_reducible refine stI ?_
            try simp (maxSteps:=1000000)(dsimp:=false)(disch:=omega) only [go_sem, Φa, hP, h1_0, h1_2, hops, hopl]
            try with_reducible refine And.intro (Less.drop _ _) ?_
            try with_reducible refine stI ?_
            try simp (maxSteps:=1000000)(dsimp:=false)(disch:=omega) only [go_sem, Φa, hP, h1_0, h1_2, hops, hopl]
            refine ⟨2, _, _, _, rfl, by decide, .inr (by decide), ?_⟩
            try with_reducible refine stI ?_
            try simp (maxSteps:=1000000)(dsimp:=false)(disch:=omega) only [go_sem, Φa, hP, h1_0, h1_2, hops, hopl]
            refine hK6 (b0, b1, b3) _ (some (b3, .cells #[.int .u8 0, .int .u8 0, .int .u8 0, .int .u8 0, .int .u8 0, .int .u8 0, .int .u8 0, .int .u8 0, .int .u8 0, .int .u8 0, .int .u8 0, .int .u8 0, .int .u8 0, .int .u8 0, .int .u8 0, .int .u8 0, .int .u16 0, .int .u16 512, .slice none 0 0, .int .u8 0, .int .u8 0, .slice (some ⟨b0, 0, none⟩) 256 256, .slice (some ⟨b1, 0, none⟩) 3232 3232] 29 (0, 0)) :: some (b1, .cells (zerosV [.int .u8 0] 3232).toArray 5 (0, 0)) :: some (b0, .cells (zerosV [.int .u8 0] 256).toArray 5 (0, 0)) :: some (g0, .cells #[.int .u8 0, .int .u8 0, .int .u8 0, .int .u8 0, .int .u8 0, .int .u8 0, .int .u8 0, .int .u8 0, .int .u8 0, .int .u8 0, .int .u8 0, .int .u8 0, .int .u8 0, .int .u8 0, .int .u8 0, .int .u8 0, .int .u16 0, .int .u16 0, .slice none 0 0, .int .u8 0, .int .u8 0, .slice none 0 0, .slice none 0 0] 29 (0, 0)) :: L) _ (by exact Less.trans (Less.swap0 _ _ _) (Less.trans (Less.swap1 _ _ _ _) (Less.swap0 _ _ _))) ?_
            try dsimp only
            refine ⟨?_, ?_, ?_, ?_, ?_⟩
            · simp (maxSteps:=1000000)(dsimp:=false)(disch:=omega) only [go_sem, Φa, hP, h1_0, h1_2]
              first | done | rfl | skip
            · simp (maxSteps:=1000000)(dsimp:=false)(disch:=omega) only [go_sem, Φa, hP, h1_0, h1_2]
            · simp (maxSteps:=1000000)(dsimp:=false)(disch:=omega) only [go_sem, Φa, hP, h1_0, h1_2]
            · rfl
            · trivial
    · intro ss T2 L2 hI
      obtain ⟨b0, b1, b3⟩ := ss
      try dsimp only at hI 
      simp only [h1_0, h1_2] at hI 
      obtain ⟨h2_4, h2_0, h2_2, hL2, hinv⟩ := hI
      replace hL2 := hL2.symm
      subst hL2
      clear h1_0 h1_2 T1
      refine SX.seq_k fun K7 hK7 => ?_
      have hpl2 : p.length ≤ 3232 := by omega
      refine SX.region_d [some 12, some 13, some 14, some 15] rfl (fun ops hops => ?_)
      unfold Dsts at hops
      simp (maxSteps:=1000000)(dsimp:=false)(disch:=omega) only [go_sem, Φa, hP, h2_4, h2_0, h2_2, hops]
      refine ⟨_, Cell.at 0 rfl rfl, ?_⟩
      try with_reducible refine stI ?_
      try simp (maxSteps:=1000000)(dsimp:=false)(disch:=omega) only [go_sem, Φa, hP, h2_4, h2_0, h2_2, hops]
      refine YCopy.ints (i := 1) (hP ▸ T.elS_23) (SlI.cons _ (SlI.cons _ (SlI.cons _ (SlI.cons _ hp)))) rfl (by simp [zerosV]; omega) (.inr (Nat.zero_le _)) ?_
      rw [copied hpl2]
      try with_reducible refine stI ?_
      try simp (maxSteps:=1000000)(dsimp:=false)(disch:=omega) only [go_sem, Φa, hP, h2_4, h2_0, h2_2, hops]
      refine hK7 _ _ ?_
      try clear hK7 K7
      refine SX.seq_k fun K8 hK8 => ?_
      refine SX.region_d [some 16, none, some 3] rfl (fun ops hops => ?_)
      unfold Dsts at hops
      simp (maxSteps:=1000000)(dsimp:=false)(disch:=omega) only [go_sem, Φa, hP, h2_4, h2_0, h2_2, hops]
      refine ⟨_, Cell.at 0 rfl rfl, ?_⟩
      try with_reducible refine stI ?_
      try simp (maxSteps:=1000000)(dsimp:=false)(disch:=omega) only [go_sem, Φa, hP, h2_4, h2_0, h2_2, hops]
      refine ⟨_, Cell.at 0 rfl rfl, ?_⟩
      try with_reducible refine stI ?_
      try simp (maxSteps:=1000000)(dsimp:=false)(disch:=omega) only [go_sem, Φa, hP, h2_4, h2_0, h2_2, hops]
      refine ⟨_, Cell.at 0 rfl rfl, ?_⟩
      try with_reducible refine stI ?_
      try simp (maxSteps:=1000000)(dsimp:=false)(disch:=omega) only [go_sem, Φa, hP, h2_4, h2_0, h2_2, hops]
      refine ⟨_, Cell.at 0 rfl rfl, ?_⟩
      try with_reducible refine stI ?_
      try simp (maxSteps:=1000000)(dsimp:=false)(disch:=omega) only [go_sem, Φa, hP, h2_4, h2_0, h2_2, hops]
      refine ⟨_, Cell.at 0 rfl rfl, ?_⟩
      try with_reducible refine stI ?_
      try simp (maxSteps:=1000000)(dsimp:=false)(disch:=omega) only [go_sem, Φa, hP, h2_4, h2_0, h2_2, hops]
      refine ⟨_, Cell.at 0 rfl rfl, ?_⟩
      try with_reducible refine stI ?_
      try simp (maxSteps:=1000000)(dsimp:=false)(disch:=omega) only [go_sem, Φa, hP, h2_4, h2_0, h2_2, hops]
      refine ⟨_, Cell.at 0 rfl rfl, ?_⟩
      try with_reducible refine stI ?_
      try simp (maxSteps:=1000000)(dsimp:=false)(disch:=omega) only [go_sem, Φa, hP, h2_4, h2_0, h2_2, hops]
      refine ⟨_, Cell.at 0 rfl rfl, ?_⟩
      try with_reducible refine stI ?_
      try simp (maxSteps:=1000000)(dsimp:=false)(disch:=omega) only [go_sem, Φa, hP, h2_4, h2_0, h2_2, hops]
      refine ⟨_, Cell.at 0 rfl rfl, ?_⟩
      try with_reducible refine stI ?_
      try simp (maxSteps:=1000000)(dsimp:=false)(disch:=omega) only [go_sem, Φa, hP, h2_4, h2_0, h2_2, hops]
      refine ⟨_, Cell.at 0 rfl rfl, ?_⟩
      try with_reducible refine stI ?_
      try simp (maxSteps:=1000000)(dsimp:=false)(disch:=omega) only [go_sem, Φa, hP, h2_4, h2_0, h2_2, hops]
      refine ⟨_, Cell.at 0 rfl rfl, ?_⟩
      try with_reducible refine stI ?_
      try simp (maxSteps:=1000000)(dsimp:=false)(disch:=omega) only [go_sem, Φa, hP, h2_4, h2_0, h2_2, hops]
      refine ⟨_, Cell.at 0 rfl rfl, ?_⟩
      try with_reducible refine stI ?_
      try simp (maxSteps:=1000000)(dsimp:=false)(disch:=omega) only [go_sem, Φa, hP, h2_4, h2_0, h2_2, hops]
      refine ⟨_, Cell.at 0 rfl rfl, ?_⟩
      try with_reducible refine stI ?_
      try simp (maxSteps:=1000000)(dsimp:=false)(disch:=omega) only [go_sem, Φa, hP, h2_4, h2_0, h2_2, hops]
      refine ⟨_, Cell.at 0 rfl rfl, ?_⟩
      try with_reducible refine stI ?_
      try simp (maxSteps:=1000000)(dsimp:=false)(disch:=omega) only [go_sem, Φa, hP, h2_4, h2_0, h2_2, hops]
      refine ⟨_, Cell.at 0 rfl rfl, ?_⟩
      try with_reducible refine stI ?_
      try simp (maxSteps:=1000000)(dsimp:=false)(disch:=omega) only [go_sem, Φa, hP, h2_4, h2_0, h2_2, hops]
      refine ⟨_, Cell.at 0 rfl rfl, ?_⟩
      try with_reducible refine stI ?_
      try simp (maxSteps:=1000000)(dsimp:=false)(disch:=omega) only [go_sem, Φa, hP, h2_4, h2_0, h2_2, hops]
      refine ⟨_, Cell.at 0 rfl rfl, ?_⟩
      try with_reducible refine stI ?_
      try simp (maxSteps:=1000000)(dsimp:=false)(disch:=omega) only [go_sem, Φa, hP, h2_4, h2_0, h2_2, hops]
      refine ⟨_, Cell.at 0 rfl rfl, ?_⟩
      try with_reducible refine stI ?_
      try simp (maxSteps:=1000000)(dsimp:=false)(disch:=omega) only [go_sem, Φa, hP, h2_4, h2_0, h2_2, hops]
      refine ⟨_, Cell.at 0 rfl rfl, ?_⟩
      try with_reducible refine stI ?_
      try simp (maxSteps:=1000000)(dsimp:=false)(disch:=omega) only [go_sem, Φa, hP, h2_4, h2_0, h2_2, hops]
      refine ⟨_, Cell.at 0 rfl rfl, ?_⟩
      try with_reducible refine stI ?_
      try simp (maxSteps:=1000000)(dsimp:=false)(disch:=omega) only [go_sem, Φa, hP, h2_4, h2_0, h2_2, hops]
      refine ⟨_, Cell.at 0 rfl rfl, ?_⟩
      try with_reducible refine stI ?_
      try simp (maxSteps:=1000000)(dsimp:=false)(disch:=omega) only [go_sem, Φa, hP, h2_4, h2_0, h2_2, hops]
      refine ⟨_, Cell.at 0 rfl rfl, ?_⟩
      try with_reducible refine stI ?_
      try simp (maxSteps:=1000000)(dsimp:=false)(disch:=omega) only [go_sem, Φa, hP, h2_4, h2_0, h2_2, hops]
      refine ⟨_, Cell.at 0 rfl rfl, ?_⟩
      try with_reducible refine stI ?_
      try simp (maxSteps:=1000000)(dsimp:=false)(disch:=omega) only [go_sem, Φa, hP, h2_4, h2_0, h2_2, hops]
      refine ⟨3, _, _, _, rfl, by decide, .inr (by decide), ?_⟩
      try with_reducible refine stI ?_
      try simp (maxSteps:=1000000)(dsimp:=false)(disch:=omega) only [go_sem, Φa, hP, h2_4, h2_0, h2_2, hops]
      refine hK8 _ _ ?_
      try clear hK8 K8
      refine SX.ret ?_
      simp only [andThen_normal, andThen_ret, andThen_exit, inBlk_normal, inBlk_ret, inBlk_exit, Nat.reduceEqDiff, if_true, if_false, ↓reduceIte, retQ_ret]
      try simp only [res0,res1,res2,res3,stK_e,resX,resK,oneOr,ld_ptr,loadVC,loadN,List.nil_append,List.cons_append,Nat.reduceAdd,Nat.add_zero,Nat.zero_add,Addr.add_lit,Addr.add_zero',add_addS,T.elA_29,T.lay_29,T.szA_29,T.zr_29,Try.underlying29,go_sem,Φa,hP,h2_4,h2_0,h2_2]
      refine ⟨_, none :: some (b0, .cells (ints .u8 (List.replicate 256 0)).toArray 5 (0, 0)) :: some (b1, .cells (ints .u8 (p ++ List.replicate (3232 - p.length) 0)).toArray 5 (0, 0)) :: L, ?_, ⟨_, Cell.at 3 rfl rfl, _, Cell.at 3 rfl rfl, _, Cell.at 3 rfl rfl, _, Cell.at 3 rfl rfl, _, Cell.at 3 rfl rfl, _, Cell.at 3 rfl rfl, _, Cell.at 3 rfl rfl, _, Cell.at 3 rfl rfl, _, Cell.at 3 rfl rfl, _, Cell.at 3 rfl rfl, _, Cell.at 3 rfl rfl, _, Cell.at 3 rfl rfl, _, Cell.at 3 rfl rfl, _, Cell.at 3 rfl rfl, _, Cell.at 3 rfl rfl, _, Cell.at 3 rfl rfl, _, Cell.at 3 rfl rfl, _, Cell.at 3 rfl rfl, _, Cell.at 3 rfl rfl, _, Cell.at 3 rfl rfl, _, Cell.at 3 rfl rfl, _, Cell.at 3 rfl rfl, _, Cell.at 3 rfl rfl, rfl⟩, ?_⟩
      · rw [zerosI]
        exact (Less.sublist (.cons _ (.cons_cons _ (.cons_cons _ (.cons _ (List.Sublist.refl _)))))).trans ((Less.swap0 _ _ _).trans (Less.none _))
      · unfold newG
        rw [if_neg (by omega)]
        exact ⟨_, _, _, none, _, _, rfl, rfl, ⟨RowI.nil _ _, rowFull (by simp), rowFull (by simp; omega)⟩⟩
end Go.Proofs.Ytgioegdjeodpiaa
set_option linter.unusedVariables false
set_option linter.unusedSimpArgs false
namespace Go.Proofs.Ytgioegdjeodpiaa
open Go.RowKit Go.SX

end Go.Proofs.Ytgioegdjeodpiaa
set_option linter.unusedVariables false
set_option linter.unusedSimpArgs false
namespace Go.Proofs.Ytgioegdjeodpiaa
open Go.RowKit Go.SX
set_option maxHeartbeats 1000000 in
set_option maxRecDepth 100000 in
theorem refCheck_spec {Γ : Ctx} (hP : Γ.P = Try.prog) {L : Hp} {g : GM} {sv pv mv : Value} (hs : SlI .u16 (Cell Γ L) sv g.st) (hp : SlI .u8 (Cell Γ L) pv g.pg) (hm : SlI .u8 (Cell Γ L) mv g.mm) (hsl : g.st.length ≤ 2147483647) (hpl : g.pg.length ≤ 2147483647) (hml : g.mm.length ≤ 2147483647) :
    SCall Γ 23 #[(.agg (g.cells sv pv mv).toArray)] L (fun v L' => v = .int .i64 (checkE g) ∧ L' = L) := by
  obtain ⟨As, cs, rfl, hcs⟩ := slShape hs
  obtain ⟨Ap, cp, rfl, hcp⟩ := slShape hp
  obtain ⟨Am, cm, rfl, hcm⟩ := slShape hm
  refine SCall.enter (n := 19) (res1 2) (hP ▸ Try.func23) rfl rfl (by simp) (res1_ok rfl) ?_
  refine SX.seq_k fun K1 hK1 => ?_
  refine SX.region_d [some 1, some 2] rfl (fun ops hops => ?_)
  unfold Dsts at hops
  simp (maxSteps := 1000000) (dsimp := false) (disch := omega) only [go_sem, ia_someH, hP, hops]
  intro b0
  try with_reducible refine stI ?_
  try simp (maxSteps := 1000000) (dsimp := false) (disch := omega) only [go_sem, ia_someH, hP, hops]
  refine hK1 _ _ ?_
  try clear hK1 K1
  refine SX.seq_k fun K2 hK2 => ?_
  refine SX.seq_k fun K3 hK3 => ?_
  refine SX.region_xd [some 3, some 4, some 5, some 6, some 7, some 8, some 9, some 10, some 11, some 12, some 13, some 14, some 15, some 16, some 17, some 18] rfl (fun ops hops => ?_)
  unfold Dsts at hops
  refine RX.live [1] (fun T1 hT1 => ?_)
  simp only [forall_mem_cons', forall_mem_nil', go_sem, ia_someH, hP] at hT1
  have h1_1 := hT1; clear hT1
  refine RX.join 10 (fun (ss : Unit) T L' => T 12 = .bool ((!decide ((g.pg.length : Int) = 256)) || !decide ((g.mm.length : Int) = 3232)) ∧ T 1 = T1 1 ∧ L' = some (b0, .cells (g.cells (.slice As g.st.length cs) (.slice Ap g.pg.length cp) (.slice Am g.mm.length cm)).toArray 29 (0, 0)) :: L ∧ (True)) (fun K4 hK4 => ?_) ?_
  · simp only [h1_1] at hK4
    simp (maxSteps := 1000000) (dsimp := false) (disch := omega) only [go_sem, ia_someH, hP, h1_1, hops]
    repeat' (first | refine iteB (fun hg => ?_) (fun hg => ?_) | refine iteI (fun hg => ?_) (fun hg => ?_) | ((first | refine ⟨_, Cell.at 0 rfl (show (g.cells _ _ _)[21]? = _ from rfl), ?_⟩ | refine ⟨_, Cell.at 0 rfl (show (g.cells _ _ _)[22]? = _ from rfl), ?_⟩ | refine ⟨_, Cell.at 0 rfl (show (g.cells _ _ _)[18]? = _ from rfl), ?_⟩ | refine And.intro (by omega) ?_ | refine ⟨_, Cell.at 0 rfl rfl, ?_⟩ | fail); try (with_reducible refine stI ?_); try simp (maxSteps := 1000000) (dsimp := false) (disch := omega) only [go_sem, ia_someH, hP, h1_1, hops]) | fail)
    all_goals
      refine hK4 () _ (some (b0, .cells (g.cells (.slice As g.st.length cs) (.slice Ap g.pg.length cp) (.slice Am g.mm.length cm)).toArray 29 (0, 0)) :: L) _ (by first | exact Less.refl _ | exact Less.drop _ _ | exact Less.drops (Less.drop _ _) | exact Less.drops (Less.drops (Less.drop _ _)) | exact Less.drops (Less.drops (Less.drops (Less.drop _ _))) | exact Less.drops (Less.drops (Less.drops (Less.drops (Less.drop _ _))))) ?_
      try dsimp only
      refine ⟨?_, ?_, ?_, ?_⟩
      · simp (maxSteps := 1000000) (dsimp := false) (disch := omega) only [go_sem, ia_someH, hP, h1_1]
        first | done | (refine congrArg Value.bool ?_; simp_all; done) | (refine congrArg Value.bool ?_; simp_all; omega)
      · simp (maxSteps := 1000000) (dsimp := false) (disch := omega) only [go_sem, ia_someH, hP, h1_1]
      · rfl
      · trivial
  · intro ss T2 L2 hI
    simp only [h1_1] at hI 
    obtain ⟨h2_12, h2_1, hL2, hinv⟩ := hI
    replace hL2 := hL2.symm
    subst hL2
    clear h1_1 T1
    refine RX.live [1, 12] (fun T3 hT3 => ?_)
    simp only [forall_mem_cons', forall_mem_nil', go_sem, ia_someH, hP, h2_12, h2_1] at hT3
    obtain ⟨h3_1, h3_12⟩ := hT3
    clear h2_12 h2_1 T2
    refine RX.join 6 (fun (ss : Unit) T L' => T 18 = .bool ((!decide ((g.pg.length : Int) = 256)) || (!decide ((g.mm.length : Int) = 3232)) || decide (12 < (g.st.length : Int))) ∧ L' = some (b0, .cells (g.cells (.slice As g.st.length cs) (.slice Ap g.pg.length cp) (.slice Am g.mm.length cm)).toArray 29 (0, 0)) :: L ∧ (True)) (fun K5 hK5 => ?_) ?_
    · simp (maxSteps := 1000000) (dsimp := false) (disch := omega) only [go_sem, ia_someH, hP, h3_1, h3_12, hops]
      repeat' (first | refine iteB (fun hg => ?_) (fun hg => ?_) | refine iteI (fun hg => ?_) (fun hg => ?_) | ((first | refine ⟨_, Cell.at 0 rfl (show (g.cells _ _ _)[21]? = _ from rfl), ?_⟩ | refine ⟨_, Cell.at 0 rfl (show (g.cells _ _ _)[22]? = _ from rfl), ?_⟩ | refine ⟨_, Cell.at 0 rfl (show (g.cells _ _ _)[18]? = _ from rfl), ?_⟩ | refine And.intro (by omega) ?_ | refine ⟨_, Cell.at 0 rfl rfl, ?_⟩ | fail); try (with_reducible refine stI ?_); try simp (maxSteps := 1000000) (dsimp := false) (disch := omega) only [go_sem, ia_someH, hP, h3_1, h3_12, hops]) | fail)
      all_goals
        refine hK5 () _ (some (b0, .cells (g.cells (.slice As g.st.length cs) (.slice Ap g.pg.length cp) (.slice Am g.mm.length cm)).toArray 29 (0, 0)) :: L) _ (by first | exact Less.refl _ | exact Less.drop _ _ | exact Less.drops (Less.drop _ _) | exact Less.drops (Less.drops (Less.drop _ _)) | exact Less.drops (Less.drops (Less.drops (Less.drop _ _))) | exact Less.drops (Less.drops (Less.drops (Less.drops (Less.drop _ _))))) ?_
        try dsimp only
        refine ⟨?_, ?_, ?_⟩
        · simp (maxSteps := 1000000) (dsimp := false) (disch := omega) only [go_sem, ia_someH, hP, h3_1, h3_12]
          first | done | (refine congrArg Value.bool ?_; simp_all; done) | (refine congrArg Value.bool ?_; simp_all; omega)
        · rfl
        · trivial
    · intro ss T4 L4 hI
      obtain ⟨h4_18, hL4, hinv⟩ := hI
      replace hL4 := hL4.symm
      subst hL4
      clear h3_1 h3_12 T3
      refine RX.done ?_
      simp (maxSteps := 1000000) (dsimp := false) (disch := omega) only [go_sem, ia_someH, hP, h4_18, hops]
      refine hK3 _ _ ?_
      try clear hK3 K3
      refine SX.cond_k fun X6 Y6 hX6 hY6 => ?_
      simp (maxSteps := 1000000) (dsimp := false) (disch := omega) only [go_sem, ia_someH, hP, h4_18, condVC]
      refine ⟨fun hc18 => hX6 ?_, fun hc18 => hY6 ?_⟩
      · clear hX6 hY6 X6 Y6
        refine SX.seq_k fun K7 hK7 => ?_
        refine SX.region_d [some 2] rfl (fun ops hops => ?_)
        unfold Dsts at hops
        simp (maxSteps := 1000000) (dsimp := false) (disch := omega) only [go_sem, ia_someH, hP, h4_18, hops]
        refine hK7 _ _ ?_
        try clear hK7 K7
        refine SX.ret ?_
        simp only [andThen_normal, andThen_ret, andThen_exit, inBlk_normal, inBlk_ret, inBlk_exit, Nat.reduceEqDiff, if_true, if_false, ↓reduceIte, retQ_ret]
        try simp only [res0, res1, res2, res3, stK_e, go_sem, ia_someH, hP, h4_18]
        refine ⟨_, _, Less.drop _ _, rfl, ?_⟩
        unfold checkE
        rw [if_neg (fun h => by obtain ⟨h1, h2, h3⟩ := h; simp [h1, h2] at hc18; omega)]
        exact ⟨rfl, rfl⟩
      · clear hX6 hY6 X6 Y6
        refine SX.skip ?_
        try simp only [andThen_normal, andThen_ret, andThen_exit, inBlk_normal, inBlk_ret, inBlk_exit, Nat.reduceEqDiff, if_true, if_false, ↓reduceIte]
        refine hK2 _ _ ?_
        try clear hK2 K2
        refine SX.seq_k fun K8 hK8 => ?_
        refine SX.region_d [some 2] rfl (fun ops hops => ?_)
        unfold Dsts at hops
        simp (maxSteps := 1000000) (dsimp := false) (disch := omega) only [go_sem, ia_someH, hP, h4_18, hops]
        refine hK8 _ _ ?_
        try clear hK8 K8
        refine SX.ret ?_
        simp only [andThen_normal, andThen_ret, andThen_exit, inBlk_normal, inBlk_ret, inBlk_exit, Nat.reduceEqDiff, if_true, if_false, ↓reduceIte, retQ_ret]
        try simp only [res0, res1, res2, res3, stK_e, go_sem, ia_someH, hP, h4_18]
        refine ⟨_, _, Less.drop _ _, rfl, ?_⟩
        unfold checkE
        rw [if_pos (by simp at hc18; omega)]
        exact ⟨rfl, rfl⟩
end Go.Proofs.Ytgioegdjeodpiaa
set_option linter.unusedVariables false
set_option linter.unusedSimpArgs false
namespace Go.Proofs.Ytgioegdjeodpiaa
open Go.RowKit Go.SX

end Go.Proofs.Ytgioegdjeodpiaa
set_option linter.unusedVariables false
set_option linter.unusedSimpArgs false
namespace Go.Proofs.Ytgioegdjeodpiaa
open Go.RowKit Go.SX

def vastB (g : GM) (f : Fnt) : Bool := decide (2147483647 < g.st.length ∨ 2147483647 < g.pg.length ∨ 2147483647 < g.mm.length ∨ 2147483647 < f.bs.length ∨ 2147483647 < g.st.length + g.pg.length + g.mm.length + f.bs.length)
end Go.Proofs.Ytgioegdjeodpiaa
set_option linter.unusedVariables false
set_option linter.unusedSimpArgs false
namespace Go.Proofs.Ytgioegdjeodpiaa
open Go.RowKit Go.SX

end Go.Proofs.Ytgioegdjeodpiaa
set_option linter.unusedVariables false
set_option linter.unusedSimpArgs false
namespace Go.Proofs.Ytgioegdjeodpiaa
open Go.RowKit Go.SX
def dotD (b : Int) (d : Nat) : Bool := !decide (bits .and .u8 b ((128 : Int).fdiv (2 ^ (min d 8))) = 0)
def hit (page : List Int) (x y : Nat) (rows : List Int) (k d : Nat) : Bool :=
  dotD (rows.getD k 0) d && decide (x % 64 + d < 64) && decide (y % 32 + k < 32) && dotD (page.getD (8 * (y % 32 + k) + (x % 64 + d) / 8) 0) ((x % 64 + d) % 8)
def went (page : List Int) (x y : Nat) (rows : List Int) : Bool := (List.range rows.length).any fun k => (List.range 8).any fun d => hit page x y rows k d
/-! ### The dots of a page -/
theorem dotD_all : ((List.range 256).all fun b => (List.range 8).all fun k => dotD ((b : Nat) : Int) k == b.testBit (7 - k) && (dotB ((b : Nat) : Int) k == b.testBit (7 - k))) = true := by kernel_rfl
theorem dotD_test {b k : Nat} (hb : b < 256) (hk : k < 8) : dotD (b : Int) k = b.testBit (7 - k) ∧ dotB (b : Int) k = b.testBit (7 - k) := by
  have h1 := List.all_eq_true.1 dotD_all b (List.mem_range.2 hb)
  have h2 := List.all_eq_true.1 h1 k (List.mem_range.2 hk)
  simpa using h2
theorem bitOf_all : ((List.range 8).all fun k => decide ((128 : Int).fdiv (2 ^ (min k 8)) = ((2 ^ (7 - k) : Nat) : Int))) = true := by kernel_rfl
theorem bitOf_pow (i : Nat) : bitOf i = ((2 ^ (7 - i % 8) : Nat) : Int) :=
  of_decide_eq_true (List.all_eq_true.1 bitOf_all (i % 8) (List.mem_range.2 (by omega)))
def ByteN (l : List Int) : Prop := ∀ x ∈ l, ∃ b : Nat, b < 256 ∧ x = (b : Int)
theorem Byte.toN {l : List Int} (h : Byte l) : ByteN l := fun x hx => ⟨x.toNat, by have := h x hx; omega, by have := h x hx; omega⟩
theorem ByteN.at {l : List Int} (h : ByteN l) (k : Nat) : ∃ b : Nat, b < 256 ∧ l.getD k 0 = (b : Int) := by
  by_cases hk : k < l.length
  · rw [List.getD_eq_getElem?_getD, List.getElem?_eq_getElem hk]
    exact h _ (List.getElem_mem hk)
  · rw [List.getD_eq_getElem?_getD, List.getElem?_eq_none (by omega)]
    exact ⟨0, by omega, rfl⟩
theorem xor_byte {b i : Nat} (hb : b < 256) : ∃ c : Nat, c < 256 ∧ bits .xor .u8 (b : Int) (bitOf i) = (c : Int) ∧ ∀ d, d < 8 → dotD (c : Int) d = (dotD (b : Int) d != decide (d = i % 8)) := by
  have hp : 2 ^ (7 - i % 8) < 256 := by
    have : 2 ^ (7 - i % 8) < 2 ^ 8 := Nat.pow_lt_pow_right (by omega) (by omega)
    omega
  have hc : b ^^^ 2 ^ (7 - i % 8) < 256 := Nat.xor_lt_two_pow (n := 8) hb hp
  refine ⟨b ^^^ 2 ^ (7 - i % 8), hc, by rw [bitOf_pow, u8_xor_nat _ _ hb hp], fun d hd => ?_⟩
  rw [(dotD_test hc hd).1, (dotD_test hb hd).1, Nat.testBit_xor, Nat.testBit_two_pow]
  have : decide (7 - i % 8 = 7 - d) = decide (d = i % 8) := decide_eq_decide.2 (by omega)
  rw [this]
structure Good (l : List Int) : Prop where
  len : l.length = 256
  byte : ByteN l
theorem putDot_good {st : Bool × List Int} (h : Good st.2) (i j : Nat) : Good (putDot st i j).2 := by
  refine ⟨by rw [putDot_length]; exact h.len, ?_⟩
  unfold putDot
  split
  · exact h.byte
  · intro x hx
    rcases List.mem_or_eq_of_mem_set hx with hx | rfl
    · exact h.byte x hx
    · obtain ⟨b, hb, e⟩ := h.byte.at (j * 8 + i / 8)
      obtain ⟨c, hc, e2, _⟩ := xor_byte (i := i) hb
      exact ⟨c, hc, by rw [e, e2]⟩
theorem eachI_good {b : Int} {x y : Nat} {st : Bool × List Int} (h : Good st.2) : ∀ m, Good (eachI b x y st m).2
  | 0 => h
  | m + 1 => by
    rw [eachI]
    split
    · exact putDot_good (eachI_good h m) _ _
    · exact eachI_good h m
theorem eachK_good {rows : List Int} {x y : Nat} {st : Bool × List Int} (h : Good st.2) : ∀ k, Good (eachK rows x y st k).2
  | 0 => h
  | k + 1 => by rw [eachK]; exact eachI_good (eachK_good h k) 8
theorem drawn_good {page rows : List Int} {x y : Nat} (h : Good page) : Good (drawn page x y rows).2 := eachK_good (st := (false, page)) h _
end Go.Proofs.Ytgioegdjeodpiaa
set_option linter.unusedVariables false
set_option linter.unusedSimpArgs false
namespace Go.Proofs.Ytgioegdjeodpiaa
open Go.RowKit Go.SX
/-! What a step makes of a game may be again. -/
/-- A game that may be. -/
structure Fine (g : GM) : Prop where
  ok : OkG g
  pg : g.pg.length = 256
  mm : g.mm.length = 3232
  st : g.st.length ≤ 12
theorem Fine.check {g : GM} (h : Fine g) : checkE g = 0 := if_pos ⟨h.pg, h.mm, h.st⟩
theorem fine_of {g : GM} (h : OkG g) (hc : checkE g = 0) : Fine g := by
  unfold checkE at hc
  split at hc
  · rename_i h1; exact ⟨h, h1.1, h1.2.1, h1.2.2⟩
  · cases hc
theorem byte_rep (n : Nat) : Byte (List.replicate n 0) := fun x hx => by rw [List.eq_of_mem_replicate hx]; omega
theorem byte_app {l m : List Int} (h : Byte l) (k : Byte m) : Byte (l ++ m) := fun x hx => by
  rcases List.mem_append.1 hx with h1 | h1
  · exact h x h1
  · exact k x h1
theorem byte_take {l : List Int} (h : Byte l) (n : Nat) : Byte (l.take n) := fun x hx => h x (List.mem_of_mem_take hx)
theorem wd_take {l : List Int} (h : Wd l) (n : Nat) : Wd (l.take n) := fun x hx => h x (List.mem_of_mem_take hx)
theorem newG_fine {p : List Int} (h : Byte p) (hl : p.length ≤ 3232) : Fine (newG p).1 ∧ (newG p).2 = 0 := by
  unfold newG
  rw [if_neg (by omega)]
  have i0 : ∀ (a b c : Int), a ≤ b → b ≤ c → a ≤ b ∧ b ≤ c := fun a b c h1 h2 => ⟨h1, h2⟩
  refine ⟨⟨⟨rfl, byte_rep 16, i0 0 0 65535 (by decide) (by decide), i0 0 512 65535 (by decide) (by decide), fun x hx => (by simp at hx), i0 0 0 255 (by decide) (by decide), i0 0 0 255 (by decide) (by decide), byte_rep 256, byte_app h (byte_rep _)⟩, List.length_replicate .., ?_, Nat.zero_le _⟩, rfl⟩
  show (p ++ List.replicate (3232 - p.length) 0).length = 3232
  rw [List.length_append, List.length_replicate]
  omega
theorem wrap8 (x : Int) : 0 ≤ IntKind.u8.wrap x ∧ IntKind.u8.wrap x ≤ 255 := by rw [IntKind.wrap_u8]; omega
theorem wrap16 (x : Int) : 0 ≤ IntKind.u16.wrap x ∧ IntKind.u16.wrap x ≤ 65535 := by rw [IntKind.wrap_u16]; omega
theorem Fine.V {g : GM} (h : Fine g) {l : List Int} (hl : l.length = 16) (hb : Byte l) : Fine { g with V := l } := ⟨⟨hl, hb, h.ok.I, h.ok.PC, h.ok.st, h.ok.dl, h.ok.sd, h.ok.pg, h.ok.mm⟩, h.pg, h.mm, h.st⟩
theorem Fine.PC {g : GM} (h : Fine g) {x : Int} (hx : 0 ≤ x ∧ x ≤ 65535) : Fine { g with PC := x } := ⟨⟨h.ok.V, h.ok.Vb, h.ok.I, hx, h.ok.st, h.ok.dl, h.ok.sd, h.ok.pg, h.ok.mm⟩, h.pg, h.mm, h.st⟩
theorem Fine.I {g : GM} (h : Fine g) {x : Int} (hx : 0 ≤ x ∧ x ≤ 65535) : Fine { g with I := x } := ⟨⟨h.ok.V, h.ok.Vb, hx, h.ok.PC, h.ok.st, h.ok.dl, h.ok.sd, h.ok.pg, h.ok.mm⟩, h.pg, h.mm, h.st⟩
theorem Fine.skip {g : GM} (h : Fine g) (b : Bool) : Fine (skipG g b).2 := by
  unfold skipG
  dsimp only
  split
  · exact h.PC (wrap16 _)
  · exact h
theorem Fine.let_ {g : GM} (h : Fine g) (o : Ord) {b : Int} (hb : 0 ≤ b ∧ b ≤ 255) : Fine (letG g o b).2 := h.V (by rw [List.length_set]; exact h.ok.V) (byte_set h.ok.Vb hb)
theorem Fine.flag {g : GM} (h : Fine g) (o : Ord) {b c : Int} (hb : 0 ≤ b ∧ b ≤ 255) (hc : 0 ≤ c ∧ c ≤ 255) : Fine (flagG g o b c).2 := h.V (by rw [List.length_set, List.length_set]; exact h.ok.V) (byte_set (byte_set h.ok.Vb hb) hc)
theorem bits8 (op : BinOp) (a b : Int) : 0 ≤ bits op .u8 a b ∧ bits op .u8 a b ≤ 255 := ⟨bits_lo_u8 op a b, bits_hi_u8 op a b⟩
theorem truthI_in (b : Bool) : 0 ≤ truthI b ∧ truthI b ≤ 255 := by cases b <;> decide
theorem Good.toByte {l : List Int} (h : Good l) : Byte l := fun x hx => by obtain ⟨b, hb, rfl⟩ := h.byte x hx; omega
theorem Fine.good {g : GM} (h : Fine g) : Good g.pg := ⟨h.pg, Byte.toN h.ok.pg⟩
theorem Fine.lay {g g' : GM} {bs : List Int} (h : Fine g) (hb : Byte bs) (hg : layG g bs = some g') : Fine g' := by
  unfold layG at hg
  split at hg
  · rename_i hi
    cases hg
    have hm := h.mm
    exact ⟨⟨h.ok.V, h.ok.Vb, h.ok.I, h.ok.PC, h.ok.st, h.ok.dl, h.ok.sd, h.ok.pg, spliceL_byte h.ok.mm hb⟩, h.pg, (spliceL_length (by omega)).trans hm, h.st⟩
  · cases hg
theorem Fine.do_ {g : GM} {o : Ord} {f : Fnt} {d : Feed} (h : Fine g) (ho : DecO o) (hf : OkF f) (hd : OkD d) : Fine (doG g o f d).2 := by
  have hx := byte_at h.ok.Vb o.x
  have hy := byte_at h.ok.Vb o.y
  have hb : (0 : Int) ≤ (o.b : Int) ∧ (o.b : Int) ≤ 255 := by have := ho.b; omega
  have ha : (0 : Int) ≤ (o.a : Int) ∧ (o.a : Int) ≤ 65535 := by have := ho.a; omega
  unfold doG
  split
  · exact ⟨⟨h.ok.V, h.ok.Vb, h.ok.I, h.ok.PC, h.ok.st, h.ok.dl, h.ok.sd, byte_rep 256, h.ok.mm⟩, List.length_replicate .., h.mm, h.st⟩
  · unfold backG
    split
    · exact h
    · exact ⟨⟨h.ok.V, h.ok.Vb, h.ok.I, word_at h.ok.st _, wd_take h.ok.st _, h.ok.dl, h.ok.sd, h.ok.pg, h.ok.mm⟩, h.pg, h.mm, Nat.le_trans (List.length_take_le' _ _) h.st⟩
  · exact h.PC ha
  · unfold callG
    split
    · exact h
    · rename_i hn
      have := h.st
      exact ⟨⟨h.ok.V, h.ok.Vb, h.ok.I, ha, wd_app h.ok.st h.ok.PC, h.ok.dl, h.ok.sd, h.ok.pg, h.ok.mm⟩, h.pg, h.mm, by rw [List.length_append]; simp only [List.length_cons, List.length_nil]; omega⟩
  · exact h.skip _
  · exact h.skip _
  · exact h.skip _
  · exact h.let_ o hb
  · exact h.let_ o (wrap8 _)
  · exact h.let_ o hy
  · exact h.flag o (bits8 _ _ _) (by decide)
  · exact h.flag o (bits8 _ _ _) (by decide)
  · exact h.flag o (wrap8 _) (truthI_in _)
  · exact h.flag o (wrap8 _) (truthI_in _)
  · exact h.skip _
  · exact h.I ha
  · exact h.PC (wrap16 _)
  · exact h.let_ o (bits8 _ _ _)
  · unfold drawG
    split
    · exact h
    · rename_i rows hr
      have hg : Good (drawn g.pg (vG g o.x).toNat (vG g o.y).toNat rows).2 := drawn_good h.good
      exact ⟨⟨by rw [List.length_set]; exact h.ok.V, byte_set h.ok.Vb (truthI_in _), h.ok.I, h.ok.PC, h.ok.st, h.ok.dl, h.ok.sd, hg.toByte, h.ok.mm⟩, hg.len, h.mm, h.st⟩
  · exact h.skip _
  · exact h.skip _
  · exact h.let_ o h.ok.dl
  · unfold keyG
    split
    · exact h
    · exact h.let_ o (wrap8 _)
  · exact ⟨⟨h.ok.V, h.ok.Vb, h.ok.I, h.ok.PC, h.ok.st, hx, h.ok.sd, h.ok.pg, h.ok.mm⟩, h.pg, h.mm, h.st⟩
  · exact ⟨⟨h.ok.V, h.ok.Vb, h.ok.I, h.ok.PC, h.ok.st, h.ok.dl, hx, h.ok.pg, h.ok.mm⟩, h.pg, h.mm, h.st⟩
  · exact h.I (wrap16 _)
  · exact h.I (word_at hf.atb _)
  · unfold threeG
    split
    · rename_i g' hg
      have hb3 : Byte (threeL g o) := fun x hx' => by
        unfold threeL at hx'
        simp only [List.mem_cons, List.not_mem_nil, or_false] at hx'
        rcases hx' with rfl | rfl | rfl <;> omega
      exact h.lay hb3 hg
    · exact h
  · unfold storeG
    split
    · rename_i g' hg
      have hl := h.lay (byte_take h.ok.Vb _) hg
      exact hl.I (wrap16 _)
    · exact h
  · unfold fillG
    split
    · exact h
    · rename_i bs hr
      have hl := rowG_length hr
      have hx := ho.x
      have hb := rowG_byte h.ok.mm hf.bs hr
      refine Fine.I (h.V ?_ (spliceL_byte h.ok.Vb hb)) (wrap16 _)
      rw [spliceL_length (by rw [hl, h.ok.V]; omega)]
      exact h.ok.V
  · exact h
theorem Fine.step {g : GM} {f : Fnt} {d : Feed} (h : Fine g) (hf : OkF f) (hd : OkD d) (he : (stepG g f d).2.2 = 0) : Fine (stepG g f d).1 := by
  unfold stepG at he ⊢
  rw [if_neg (by rw [h.check]; simp)] at he ⊢
  split at he
  · cases he
  · rename_i h1
    rw [if_neg h1]
    split
    · exact h
    · rename_i h2
      dsimp only
      split
      · exact h
      · exact Fine.do_ (h.PC (wrap16 _)) (nextG_dec (by omega)).1 hf hd
end Go.Proofs.Ytgioegdjeodpiaa
set_option linter.unusedVariables false
set_option linter.unusedSimpArgs false
namespace Go.Proofs.Ytgioegdjeodpiaa
open Go.RowKit Go.SX
open Go.SX renaming ia_someH → Φa

def awP : List Int := [97, 5, 98, 255, 130, 20]
def zeroF : Fnt := ⟨List.replicate 16 0, 0, []⟩
def quietD : Feed := ⟨0, 0, -1⟩
def awG : Nat → GM
  | 0 => (newG awP).1
  | k + 1 => (stepG (awG k) zeroF quietD).1
theorem awP_byte : Byte awP := fun x hx => by
  simp only [awP, List.mem_cons, List.not_mem_nil, or_false] at hx
  omega
theorem zeroF_ok : OkF zeroF := ⟨rfl, fun x hx => (by rw [List.eq_of_mem_replicate hx]; omega), by decide, fun x hx => (by simp [zeroF] at hx)⟩
theorem quietD_ok : OkD quietD := ⟨by decide, by decide⟩
def resOk (r : GM × Int × Int) : Bool := decide (r.2.1 = 1) && decide (r.2.2 = 0)
theorem aw_all : ((List.range 3).all fun k => resOk (stepG (awG k) zeroF quietD)) = true := by kernel_rfl
theorem aw_step {k : Nat} (h : k < 3) : stepG (awG k) zeroF quietD = (awG (k + 1), 1, 0) := by
  have h1 := List.all_eq_true.1 aw_all k (List.mem_range.2 h)
  simp only [resOk, Bool.and_eq_true, decide_eq_true_eq] at h1
  rw [show awG (k + 1) = (stepG (awG k) zeroF quietD).1 from rfl, ← h1.1, ← h1.2]
theorem aw_fine : ∀ k, k ≤ 3 → Fine (awG k)
  | 0, _ => (newG_fine awP_byte (by decide)).1
  | k + 1, h => (aw_fine k (by omega)).step zeroF_ok quietD_ok (by rw [aw_step (by omega)])
theorem aw_end : (awG 3).V.getD 1 0 = 5 ∧ (awG 3).V.getD 2 0 = 4 ∧ (awG 3).V.getD 15 0 = 1 ∧ (awG 3).PC = 518 := by
  refine ⟨?_, ?_, ?_, ?_⟩ <;> kernel_rfl
def awR (G : Nat → GM) (k : Nat) (L : Hp) (v : Value) (L' : Hp) : Prop := ∃ sv pv mv s1 s2 s3, v = .tuple #[.agg ((G k).cells sv pv mv).toArray, .int .u8 1, .int .i64 0] ∧ L' = s1 :: s2 :: s3 :: L ∧ Rows (G k) sv pv mv s1 s2 s3
def aw0R (G : Nat → GM) (L : Hp) (v : Value) (L' : Hp) : Prop := ∃ sv pv mv s1 s2 s3, v = .tuple #[.agg ((G 0).cells sv pv mv).toArray, .int .i64 0] ∧ L' = s1 :: s2 :: s3 :: L ∧ Rows (G 0) sv pv mv s1 s2 s3
theorem aw_new {Γ : Ctx} (hP : Γ.P = Try.prog) {L : Hp} {v : Value} (hp : SlI .u8 (Cell Γ L) v awP) : SCall Γ 13 #[v] L (aw0R awG L) := by
  refine SCall.mono (New_spec hP hp (by decide)) ?_
  rintro v' L' ⟨sv, pv, mv, s1, s2, s3, rfl, rfl, h⟩
  rw [(newG_fine awP_byte (by decide)).2]
  exact ⟨sv, pv, mv, s1, s2, s3, rfl, rfl, h⟩
theorem aw_call {Γ : Ctx} (hP : Γ.P = Try.prog) {L : Hp} {k : Nat} (hk : k < 3) {sv pv mv : Value} (hs : SlI .u16 (Cell Γ L) sv (awG k).st) (hp : SlI .u8 (Cell Γ L) pv (awG k).pg) (hm : SlI .u8 (Cell Γ L) mv (awG k).mm) :
    SCall Γ 25 #[.agg ((awG k).cells sv pv mv).toArray, .agg (zeroF.cells (.slice none 0 0)).toArray, .agg quietD.cells.toArray] L (awR awG (k + 1) L) := by
  have hF := aw_fine k (by omega)
  have h1 := hF.st
  have h2 := hF.pg
  have h3 := hF.mm
  have := Step_spec (Γ := Γ) (L := L) (fv := .slice none 0 0) hP hF.ok zeroF_ok quietD_ok hs hp hm ⟨none, 0, rfl, Nat.le_refl _, fun j x hj => (by simp [zeroF] at hj)⟩ (by omega) (by omega) (by omega) (by decide)
  rwa [aw_step hk] at this
theorem lessBox (a b c p : Slot) (L : Hp) : Less (a :: b :: c :: p :: L) (p :: a :: b :: c :: L) := Less.perm (List.perm_middle (l₁ := [a, b, c]))
set_option maxHeartbeats 1000000 in
set_option maxRecDepth 100000 in
theorem awake_core {Γ : Ctx} (hP : Γ.P = Try.prog) {L : Hp} {G : Nat → GM} (hF : ∀ k, k ≤ 3 → Fine (G k)) (h0 : (G 0).PC = 512) (hend : (G 3).V.getD 1 0 = 5 ∧ (G 3).V.getD 2 0 = 4 ∧ (G 3).V.getD 15 0 = 1 ∧ (G 3).PC = 518) (hnew : ∀ (L : Hp) (v : Value), SlI .u8 (Cell Γ L) v awP → SCall Γ 13 #[v] L (aw0R G L)) (hcall : ∀ (L : Hp) (k : Nat) (sv pv mv : Value), k < 3 → SlI .u16 (Cell Γ L) sv (G k).st → SlI .u8 (Cell Γ L) pv (G k).pg → SlI .u8 (Cell Γ L) mv (G k).mm → SCall Γ 25 #[.agg ((G k).cells sv pv mv).toArray, .agg (zeroF.cells (.slice none 0 0)).toArray, .agg quietD.cells.toArray] L (awR G (k + 1) L)) :
    SCall Γ 11 #[] L (fun v L' => v = .bool true ∧ L' = L) := by
  have aw0PC := h0
  have aw0mm : ((G 0).mm.length : Int) = 3232 := by rw [(hF 0 (by decide)).mm]; rfl
  have aw0pg : ((G 0).pg.length : Int) = 256 := by rw [(hF 0 (by decide)).pg]; rfl
  refine SCall.enter (n := 71) (res1 0) (hP ▸ Try.func11) rfl rfl (by simp) (res1_ok rfl) ?_
  refine SX.seq_k fun K1 hK1 => ?_
  refine SX.region_d [some 0] rfl (fun ops hops => ?_)
  unfold Dsts at hops
  simp (maxSteps:=1000000)(dsimp:=false)(disch:=omega) only [go_sem, Φa, hP, hops]
  refine hK1 _ _ ?_
  try clear hK1 K1
  refine SX.seq_k fun K2 hK2 => ?_
  refine SX.region_d [some 8, some 9, some 7, some 10, some 11, some 1, none, some 2] rfl (fun ops hops => ?_)
  unfold Dsts at hops
  simp (maxSteps:=1000000)(dsimp:=false)(disch:=omega) only [go_sem, Φa, hP, hops]
  intro b0
  try with_reducible refine stI ?_
  try simp (maxSteps:=1000000)(dsimp:=false)(disch:=omega) only [go_sem, Φa, hP, hops]
  refine SCall.mono (hnew _ _ (SlI.own (xs := awP) 0 rfl rfl (by decide))) ?_
  rintro v_ L_ ⟨sv, pv, mv, s1, s2, s3, rfl, rfl, hr⟩
  obtain ⟨A0st, c0st, rfl, hc0st⟩ := rowShape hr.st
  obtain ⟨A0pg, c0pg, rfl, hc0pg⟩ := rowShape hr.pg
  obtain ⟨A0mm, c0mm, rfl, hc0mm⟩ := rowShape hr.mm
  unfold GM.cells
  try with_reducible refine stI ?_
  try simp (maxSteps:=1000000)(dsimp:=false)(disch:=omega) only [go_sem, Φa, hP, hops]
  intro b1
  try with_reducible refine stI ?_
  try simp (maxSteps:=1000000)(dsimp:=false)(disch:=omega) only [go_sem, Φa, hP, hops]
  refine ⟨0, _, _, _, rfl, by decide, .inr (by decide), ?_⟩
  try with_reducible refine stI ?_
  try simp (maxSteps:=1000000)(dsimp:=false)(disch:=omega) only [go_sem, Φa, hP, hops]
  refine hK2 _ _ ?_
  try clear hK2 K2
  refine SX.seq_k fun K3 hK3 => ?_
  refine SX.seq_k fun K4 hK4 => ?_
  refine SX.region_xd [some 12, some 13, some 14, some 15, some 16, some 17, some 18, some 19, some 20, some 21, some 22, some 23, some 24, some 25, some 26, some 27, some 28, some 29, some 30] rfl (fun ops hops => ?_)
  unfold Dsts at hops
  refine RX.live [1, 2] (fun T1 hT1 => ?_)
  simp only [forall_mem_cons', forall_mem_nil', go_sem, Φa, hP] at hT1
  obtain ⟨h1_1, h1_2⟩ := hT1
  refine RX.join 7 (fun (ss : Unit) T L' => T 18 = .bool (false) ∧ T 1 = T1 1 ∧ L' = some (b1, .cells ((G 0).cells (.slice A0st (G 0).st.length c0st) (.slice A0pg (G 0).pg.length c0pg) (.slice A0mm (G 0).mm.length c0mm)).toArray 29 (0, 0)) :: s1 :: s2 :: s3 :: some (b0, .cells (ints .u8 awP).toArray 5 (0, 0)) :: L ∧ (True)) (fun K5 hK5 => ?_) ?_
  · simp only [h1_1] at hK5
    simp (maxSteps:=1000000)(dsimp:=false)(disch:=omega) only [go_sem, Φa, hP, h1_1, h1_2, hops]
    repeat' (first | refine iteB (fun hg => ?_) (fun hg => ?_) | refine iteI (fun hg => ?_) (fun hg => ?_) | ((first | refine ⟨_, Cell.at 0 rfl (show ((G 0).cells _ _ _)[17]? = some (.int .u16 (G 0).PC) from rfl), ?_⟩ | refine And.intro (by omega) ?_ | refine ⟨_, Cell.at 0 rfl rfl, ?_⟩ | refine ⟨_, Cell.at 1 rfl rfl, ?_⟩ | refine ⟨_, Cell.at 2 rfl rfl, ?_⟩ | refine ⟨_, Cell.at 3 rfl rfl, ?_⟩ | refine ⟨_, Cell.at 4 rfl rfl, ?_⟩ | fail); try (with_reducible refine stI ?_); try simp (maxSteps:=1000000)(dsimp:=false)(disch:=omega) only [go_sem, Φa, hP, h1_1, h1_2, hops]) | fail)
    all_goals
      refine hK5 () _ (some (b1, .cells ((G 0).cells (.slice A0st (G 0).st.length c0st) (.slice A0pg (G 0).pg.length c0pg) (.slice A0mm (G 0).mm.length c0mm)).toArray 29 (0, 0)) :: s1 :: s2 :: s3 :: some (b0, .cells (ints .u8 awP).toArray 5 (0, 0)) :: L) _ (by first | exact Less.refl _ | exact Less.drop _ _ | exact Less.drops (Less.drop _ _) | exact Less.drops (Less.drops (Less.drop _ _)) | exact Less.drops (Less.drops (Less.drops (Less.drop _ _))) | exact Less.drops (Less.drops (Less.drops (Less.drops (Less.drop _ _))))) ?_
      try dsimp only
      refine ⟨?_, ?_, ?_, ?_⟩
      · simp (maxSteps:=1000000)(dsimp:=false)(disch:=omega) only [go_sem, Φa, hP, h1_1, h1_2]
        first | done | exact congrArg _ (decide_eq_decide.2 (by omega)) | exact congrArg _ (decide_eq_true (by omega)).symm | exact congrArg _ (decide_eq_false (by omega)).symm
      · simp (maxSteps:=1000000)(dsimp:=false)(disch:=omega) only [go_sem, Φa, hP, h1_1, h1_2]
      · rfl
      · trivial
  · intro ss T2 L2 hI
    simp only [h1_1] at hI 
    obtain ⟨h2_18, h2_1, hL2, hinv⟩ := hI
    replace hL2 := hL2.symm
    subst hL2
    clear h1_1 h1_2 T1
    refine RX.live [1, 18] (fun T3 hT3 => ?_)
    simp only [forall_mem_cons', forall_mem_nil', go_sem, Φa, hP, h2_18, h2_1] at hT3
    obtain ⟨h3_1, h3_18⟩ := hT3
    clear h2_18 h2_1 T2
    refine RX.join 6 (fun (ss : Unit) T L' => T 24 = .bool (false) ∧ T 1 = T3 1 ∧ L' = some (b1, .cells ((G 0).cells (.slice A0st (G 0).st.length c0st) (.slice A0pg (G 0).pg.length c0pg) (.slice A0mm (G 0).mm.length c0mm)).toArray 29 (0, 0)) :: s1 :: s2 :: s3 :: some (b0, .cells (ints .u8 awP).toArray 5 (0, 0)) :: L ∧ (True)) (fun K6 hK6 => ?_) ?_
    · simp only [h3_1] at hK6
      simp (maxSteps:=1000000)(dsimp:=false)(disch:=omega) only [go_sem, Φa, hP, h3_1, h3_18, hops]
      repeat' (first | refine iteB (fun hg => ?_) (fun hg => ?_) | refine iteI (fun hg => ?_) (fun hg => ?_) | ((first | refine ⟨_, Cell.at 0 rfl (show ((G 0).cells _ _ _)[17]? = some (.int .u16 (G 0).PC) from rfl), ?_⟩ | refine And.intro (by omega) ?_ | refine ⟨_, Cell.at 0 rfl rfl, ?_⟩ | refine ⟨_, Cell.at 1 rfl rfl, ?_⟩ | refine ⟨_, Cell.at 2 rfl rfl, ?_⟩ | refine ⟨_, Cell.at 3 rfl rfl, ?_⟩ | refine ⟨_, Cell.at 4 rfl rfl, ?_⟩ | fail); try (with_reducible refine stI ?_); try simp (maxSteps:=1000000)(dsimp:=false)(disch:=omega) only [go_sem, Φa, hP, h3_1, h3_18, hops]) | fail)
      all_goals
        refine hK6 () _ (some (b1, .cells ((G 0).cells (.slice A0st (G 0).st.length c0st) (.slice A0pg (G 0).pg.length c0pg) (.slice A0mm (G 0).mm.length c0mm)).toArray 29 (0, 0)) :: s1 :: s2 :: s3 :: some (b0, .cells (ints .u8 awP).toArray 5 (0, 0)) :: L) _ (by first | exact Less.refl _ | exact Less.drop _ _ | exact Less.drops (Less.drop _ _) | exact Less.drops (Less.drops (Less.drop _ _)) | exact Less.drops (Less.drops (Less.drops (Less.drop _ _))) | exact Less.drops (Less.drops (Less.drops (Less.drops (Less.drop _ _))))) ?_
        try dsimp only
        refine ⟨?_, ?_, ?_, ?_⟩
        · simp (maxSteps:=1000000)(dsimp:=false)(disch:=omega) only [go_sem, Φa, hP, h3_1, h3_18]
          first | done | exact congrArg _ (decide_eq_decide.2 (by omega)) | exact congrArg _ (decide_eq_true (by omega)).symm | exact congrArg _ (decide_eq_false (by omega)).symm
        · simp (maxSteps:=1000000)(dsimp:=false)(disch:=omega) only [go_sem, Φa, hP, h3_1, h3_18]
        · rfl
        · trivial
    · intro ss T4 L4 hI
      simp only [h3_1] at hI 
      obtain ⟨h4_24, h4_1, hL4, hinv⟩ := hI
      replace hL4 := hL4.symm
      subst hL4
      clear h3_1 h3_18 T3
      refine RX.live [1, 24] (fun T5 hT5 => ?_)
      simp only [forall_mem_cons', forall_mem_nil', go_sem, Φa, hP, h4_24, h4_1] at hT5
      obtain ⟨h5_1, h5_24⟩ := hT5
      clear h4_24 h4_1 T4
      refine RX.join 6 (fun (ss : Unit) T L' => T 30 = .bool (false) ∧ T 1 = T5 1 ∧ L' = some (b1, .cells ((G 0).cells (.slice A0st (G 0).st.length c0st) (.slice A0pg (G 0).pg.length c0pg) (.slice A0mm (G 0).mm.length c0mm)).toArray 29 (0, 0)) :: s1 :: s2 :: s3 :: some (b0, .cells (ints .u8 awP).toArray 5 (0, 0)) :: L ∧ (True)) (fun K7 hK7 => ?_) ?_
      · simp only [h5_1] at hK7
        simp (maxSteps:=1000000)(dsimp:=false)(disch:=omega) only [go_sem, Φa, hP, h5_1, h5_24, hops]
        repeat' (first | refine iteB (fun hg => ?_) (fun hg => ?_) | refine iteI (fun hg => ?_) (fun hg => ?_) | ((first | refine ⟨_, Cell.at 0 rfl (show ((G 0).cells _ _ _)[17]? = some (.int .u16 (G 0).PC) from rfl), ?_⟩ | refine And.intro (by omega) ?_ | refine ⟨_, Cell.at 0 rfl rfl, ?_⟩ | refine ⟨_, Cell.at 1 rfl rfl, ?_⟩ | refine ⟨_, Cell.at 2 rfl rfl, ?_⟩ | refine ⟨_, Cell.at 3 rfl rfl, ?_⟩ | refine ⟨_, Cell.at 4 rfl rfl, ?_⟩ | fail); try (with_reducible refine stI ?_); try simp (maxSteps:=1000000)(dsimp:=false)(disch:=omega) only [go_sem, Φa, hP, h5_1, h5_24, hops]) | fail)
        all_goals
          refine hK7 () _ (some (b1, .cells ((G 0).cells (.slice A0st (G 0).st.length c0st) (.slice A0pg (G 0).pg.length c0pg) (.slice A0mm (G 0).mm.length c0mm)).toArray 29 (0, 0)) :: s1 :: s2 :: s3 :: some (b0, .cells (ints .u8 awP).toArray 5 (0, 0)) :: L) _ (by first | exact Less.refl _ | exact Less.drop _ _ | exact Less.drops (Less.drop _ _) | exact Less.drops (Less.drops (Less.drop _ _)) | exact Less.drops (Less.drops (Less.drops (Less.drop _ _))) | exact Less.drops (Less.drops (Less.drops (Less.drops (Less.drop _ _))))) ?_
          try dsimp only
          refine ⟨?_, ?_, ?_, ?_⟩
          · simp (maxSteps:=1000000)(dsimp:=false)(disch:=omega) only [go_sem, Φa, hP, h5_1, h5_24]
            first | done | exact congrArg _ (decide_eq_decide.2 (by omega)) | exact congrArg _ (decide_eq_true (by omega)).symm | exact congrArg _ (decide_eq_false (by omega)).symm
          · simp (maxSteps:=1000000)(dsimp:=false)(disch:=omega) only [go_sem, Φa, hP, h5_1, h5_24]
          · rfl
          · trivial
      · intro ss T6 L6 hI
        simp only [h5_1] at hI 
        obtain ⟨h6_30, h6_1, hL6, hinv⟩ := hI
        replace hL6 := hL6.symm
        subst hL6
        clear h5_1 h5_24 T5
        refine RX.done ?_
        simp (maxSteps:=1000000)(dsimp:=false)(disch:=omega) only [go_sem, Φa, hP, h6_30, h6_1, hops]
        refine hK4 _ _ ?_
        try clear hK4 K4
        refine SX.cond_k fun X8 Y8 hX8 hY8 => ?_
        simp (maxSteps:=1000000)(dsimp:=false)(disch:=omega) only [go_sem, Φa, hP, h6_30, h6_1, condVC]
        refine hY8 ?_
        clear hX8 hY8 X8 Y8
        refine SX.skip ?_
        try simp only [andThen_normal, andThen_ret, andThen_exit, inBlk_normal, inBlk_ret, inBlk_exit, Nat.reduceEqDiff, if_true, if_false, ↓reduceIte]
        refine hK3 _ _ ?_
        try clear hK3 K3
        refine SX.seq_k fun K9 hK9 => ?_
        refine SX.seq_k fun K10 hK10 => ?_
        refine SX.region_d [some 3] rfl (fun ops hops => ?_)
        unfold Dsts at hops
        simp (maxSteps:=1000000)(dsimp:=false)(disch:=omega) only [go_sem, Φa, hP, h6_30, h6_1, hops]
        refine hK10 _ _ ?_
        try clear hK10 K10
        refine SX.block ?_
        refine SX.less (Less.sublist (.cons_cons _ (.cons_cons _ (.cons_cons _ (.cons_cons _ (.cons _ (List.Sublist.refl _))))))) ?_
        refine SX.live [1, 3] (fun T7 hT7 => ?_)
        simp only [forall_mem_cons', forall_mem_nil', go_sem, Φa, hP, h6_30, h6_1] at hT7
        obtain ⟨h7_1, h7_3⟩ := hT7
        clear h6_30 h6_1 T6
        refine SX.loop_k (fun (ss : (Nat) × (Value) × (Value) × (Value) × (Slot) × (Slot) × (Slot)) T L' => (fun (k : Nat) (sv : Value) (pv : Value) (mv : Value) (s1 : Slot) (s2 : Slot) (s3 : Slot) => T 3 = .int .i64 (k : Int) ∧ T 1 = T7 1 ∧ L' = some (b1, .cells ((G k).cells sv pv mv).toArray 29 (0, 0)) :: s1 :: s2 :: s3 :: L ∧ (k ≤ 3 ∧ Rows (G k) sv pv mv s1 s2 s3)) (ss.1) (ss.2.1) (ss.2.2.1) (ss.2.2.2.1) (ss.2.2.2.2.1) (ss.2.2.2.2.2.1) (ss.2.2.2.2.2.2)) (fun (ss : (Nat) × (Value) × (Value) × (Value) × (Slot) × (Slot) × (Slot)) => (fun (k : Nat) (sv : Value) (pv : Value) (mv : Value) (s1 : Slot) (s2 : Slot) (s3 : Slot) => 3 - k) (ss.1) (ss.2.1) (ss.2.2.1) (ss.2.2.2.1) (ss.2.2.2.2.1) (ss.2.2.2.2.2.1) (ss.2.2.2.2.2.2)) (0, .slice A0st (G 0).st.length c0st, .slice A0pg (G 0).pg.length c0pg, .slice A0mm (G 0).mm.length c0mm, s1, s2, s3) ?_ ?_
        · try dsimp only
          refine ⟨?_, ?_, ?_, ?_⟩
          · first | exact h7_3 | (rw [h7_3]; rfl) | (rw [h7_3]; simp; done)
          · rfl
          · rfl
          · exact ⟨Nat.zero_le _, hr⟩
        · intro ss T8 L8 hI K11 hK11
          obtain ⟨k, sv, pv, mv, s1, s2, s3⟩ := ss
          try dsimp only at hI hK11
          simp only [h7_1] at hI hK11
          obtain ⟨h8_3, h8_1, hL8, ⟨hk, hr⟩⟩ := hI
          replace hL8 := hL8.symm
          subst hL8
          clear h7_1 h7_3 T7
          refine SX.seq_k fun K12 hK12 => ?_
          refine SX.seq_k fun K13 hK13 => ?_
          refine SX.region_d [some 31, some 32] rfl (fun ops hops => ?_)
          unfold Dsts at hops
          simp (maxSteps:=1000000)(dsimp:=false)(disch:=omega) only [go_sem, Φa, hP, h8_3, h8_1, hops]
          repeat' ((first | refine And.intro (by omega) ?_ | fail); try (with_reducible refine stI ?_); try simp (maxSteps:=1000000)(dsimp:=false)(disch:=omega) only [go_sem, Φa, hP, h8_3, h8_1, hops])
          refine hK13 _ _ ?_
          try clear hK13 K13
          refine SX.cond_k fun X14 Y14 hX14 hY14 => ?_
          simp (maxSteps:=1000000)(dsimp:=false)(disch:=omega) only [go_sem, Φa, hP, h8_3, h8_1, condVC]
          refine ⟨fun hc32 => hX14 ?_, fun hc32 => hY14 ?_⟩
          · clear hX14 hY14 X14 Y14
            refine SX.skip ?_
            try simp only [andThen_normal, andThen_ret, andThen_exit, inBlk_normal, inBlk_ret, inBlk_exit, Nat.reduceEqDiff, if_true, if_false, ↓reduceIte]
            refine hK12 _ _ ?_
            try clear hK12 K12
            refine SX.seq_k fun K15 hK15 => ?_
            refine SX.block ?_
            refine SX.seq_k fun K16 hK16 => ?_
            have hk3 : k < 3 := by omega
            refine SX.region_d [some 36, some 37, some 38, some 39, some 35, some 40, some 41, some 42, some 4, none, some 5, some 6] rfl (fun ops hops => ?_)
            unfold Dsts at hops
            simp (maxSteps:=1000000)(dsimp:=false)(disch:=omega) only [go_sem, Φa, hP, h8_3, h8_1, hops]
            obtain ⟨A0st, c0st, rfl, hc0st⟩ := rowShape hr.st
            obtain ⟨A0pg, c0pg, rfl, hc0pg⟩ := rowShape hr.pg
            obtain ⟨A0mm, c0mm, rfl, hc0mm⟩ := rowShape hr.mm
            refine ⟨_, Cell.at 0 rfl rfl, ?_⟩
            try with_reducible refine stI ?_
            try simp (maxSteps:=1000000)(dsimp:=false)(disch:=omega) only [go_sem, Φa, hP, h8_3, h8_1, hops]
            refine ⟨_, Cell.at 0 rfl rfl, ?_⟩
            try with_reducible refine stI ?_
            try simp (maxSteps:=1000000)(dsimp:=false)(disch:=omega) only [go_sem, Φa, hP, h8_3, h8_1, hops]
            refine ⟨_, Cell.at 0 rfl rfl, ?_⟩
            try with_reducible refine stI ?_
            try simp (maxSteps:=1000000)(dsimp:=false)(disch:=omega) only [go_sem, Φa, hP, h8_3, h8_1, hops]
            refine ⟨_, Cell.at 0 rfl rfl, ?_⟩
            try with_reducible refine stI ?_
            try simp (maxSteps:=1000000)(dsimp:=false)(disch:=omega) only [go_sem, Φa, hP, h8_3, h8_1, hops]
            refine ⟨_, Cell.at 0 rfl rfl, ?_⟩
            try with_reducible refine stI ?_
            try simp (maxSteps:=1000000)(dsimp:=false)(disch:=omega) only [go_sem, Φa, hP, h8_3, h8_1, hops]
            refine ⟨_, Cell.at 0 rfl rfl, ?_⟩
            try with_reducible refine stI ?_
            try simp (maxSteps:=1000000)(dsimp:=false)(disch:=omega) only [go_sem, Φa, hP, h8_3, h8_1, hops]
            refine ⟨_, Cell.at 0 rfl rfl, ?_⟩
            try with_reducible refine stI ?_
            try simp (maxSteps:=1000000)(dsimp:=false)(disch:=omega) only [go_sem, Φa, hP, h8_3, h8_1, hops]
            refine ⟨_, Cell.at 0 rfl rfl, ?_⟩
            try with_reducible refine stI ?_
            try simp (maxSteps:=1000000)(dsimp:=false)(disch:=omega) only [go_sem, Φa, hP, h8_3, h8_1, hops]
            refine ⟨_, Cell.at 0 rfl rfl, ?_⟩
            try with_reducible refine stI ?_
            try simp (maxSteps:=1000000)(dsimp:=false)(disch:=omega) only [go_sem, Φa, hP, h8_3, h8_1, hops]
            refine ⟨_, Cell.at 0 rfl rfl, ?_⟩
            try with_reducible refine stI ?_
            try simp (maxSteps:=1000000)(dsimp:=false)(disch:=omega) only [go_sem, Φa, hP, h8_3, h8_1, hops]
            refine ⟨_, Cell.at 0 rfl rfl, ?_⟩
            try with_reducible refine stI ?_
            try simp (maxSteps:=1000000)(dsimp:=false)(disch:=omega) only [go_sem, Φa, hP, h8_3, h8_1, hops]
            refine ⟨_, Cell.at 0 rfl rfl, ?_⟩
            try with_reducible refine stI ?_
            try simp (maxSteps:=1000000)(dsimp:=false)(disch:=omega) only [go_sem, Φa, hP, h8_3, h8_1, hops]
            refine ⟨_, Cell.at 0 rfl rfl, ?_⟩
            try with_reducible refine stI ?_
            try simp (maxSteps:=1000000)(dsimp:=false)(disch:=omega) only [go_sem, Φa, hP, h8_3, h8_1, hops]
            refine ⟨_, Cell.at 0 rfl rfl, ?_⟩
            try with_reducible refine stI ?_
            try simp (maxSteps:=1000000)(dsimp:=false)(disch:=omega) only [go_sem, Φa, hP, h8_3, h8_1, hops]
            refine ⟨_, Cell.at 0 rfl rfl, ?_⟩
            try with_reducible refine stI ?_
            try simp (maxSteps:=1000000)(dsimp:=false)(disch:=omega) only [go_sem, Φa, hP, h8_3, h8_1, hops]
            refine ⟨_, Cell.at 0 rfl rfl, ?_⟩
            try with_reducible refine stI ?_
            try simp (maxSteps:=1000000)(dsimp:=false)(disch:=omega) only [go_sem, Φa, hP, h8_3, h8_1, hops]
            refine ⟨_, Cell.at 0 rfl rfl, ?_⟩
            try with_reducible refine stI ?_
            try simp (maxSteps:=1000000)(dsimp:=false)(disch:=omega) only [go_sem, Φa, hP, h8_3, h8_1, hops]
            refine ⟨_, Cell.at 0 rfl rfl, ?_⟩
            try with_reducible refine stI ?_
            try simp (maxSteps:=1000000)(dsimp:=false)(disch:=omega) only [go_sem, Φa, hP, h8_3, h8_1, hops]
            refine ⟨_, Cell.at 0 rfl rfl, ?_⟩
            try with_reducible refine stI ?_
            try simp (maxSteps:=1000000)(dsimp:=false)(disch:=omega) only [go_sem, Φa, hP, h8_3, h8_1, hops]
            refine ⟨_, Cell.at 0 rfl rfl, ?_⟩
            try with_reducible refine stI ?_
            try simp (maxSteps:=1000000)(dsimp:=false)(disch:=omega) only [go_sem, Φa, hP, h8_3, h8_1, hops]
            refine ⟨_, Cell.at 0 rfl rfl, ?_⟩
            try with_reducible refine stI ?_
            try simp (maxSteps:=1000000)(dsimp:=false)(disch:=omega) only [go_sem, Φa, hP, h8_3, h8_1, hops]
            refine ⟨_, Cell.at 0 rfl rfl, ?_⟩
            try with_reducible refine stI ?_
            try simp (maxSteps:=1000000)(dsimp:=false)(disch:=omega) only [go_sem, Φa, hP, h8_3, h8_1, hops]
            refine ⟨_, Cell.at 0 rfl rfl, ?_⟩
            try with_reducible refine stI ?_
            try simp (maxSteps:=1000000)(dsimp:=false)(disch:=omega) only [go_sem, Φa, hP, h8_3, h8_1, hops]
            refine SCall.mono (hcall _ _ _ _ _ hk3 (RowI.sl hr.st (i := 1) rfl) (RowI.sl hr.pg (i := 2) rfl) (RowI.sl hr.mm (i := 3) rfl)) ?_
            rintro v_ L_ ⟨sv', pv', mv', s1', s2', s3', rfl, rfl, hr'⟩
            obtain ⟨A1st, c1st, rfl, hc1st⟩ := rowShape hr'.st
            obtain ⟨A1pg, c1pg, rfl, hc1pg⟩ := rowShape hr'.pg
            obtain ⟨A1mm, c1mm, rfl, hc1mm⟩ := rowShape hr'.mm
            unfold GM.cells
            try with_reducible refine stI ?_
            try simp (maxSteps:=1000000)(dsimp:=false)(disch:=omega) only [go_sem, Φa, hP, h8_3, h8_1, hops]
            intro b4
            try with_reducible refine stI ?_
            try simp (maxSteps:=1000000)(dsimp:=false)(disch:=omega) only [go_sem, Φa, hP, h8_3, h8_1, hops]
            refine ⟨0, _, _, _, rfl, by decide, .inr (by decide), ?_⟩
            try with_reducible refine stI ?_
            try simp (maxSteps:=1000000)(dsimp:=false)(disch:=omega) only [go_sem, Φa, hP, h8_3, h8_1, hops]
            refine hK16 _ _ ?_
            try clear hK16 K16
            refine SX.live [1, 3, 4, 5, 6] (fun T9 hT9 => ?_)
            simp only [forall_mem_cons', forall_mem_nil', go_sem, Φa, hP, h8_3, h8_1] at hT9
            obtain ⟨h9_1, h9_3, h9_4, h9_5, h9_6⟩ := hT9
            clear h8_3 h8_1 T8
            refine SX.seq_k fun K17 hK17 => ?_
            refine SX.seq_k fun K18 hK18 => ?_
            refine SX.region_xd [some 43, some 44, some 45, some 46, some 47, some 48] rfl (fun ops hops => ?_)
            unfold Dsts at hops
            refine RX.live [1, 3, 4, 5, 6] (fun T10 hT10 => ?_)
            simp only [forall_mem_cons', forall_mem_nil', go_sem, Φa, hP, h9_1, h9_3, h9_4, h9_5, h9_6] at hT10
            obtain ⟨h10_1, h10_3, h10_4, h10_5, h10_6⟩ := hT10
            clear h9_1 h9_3 h9_4 h9_5 h9_6 T9
            refine RX.join 6 (fun (ss : Unit) T L' => T 48 = .bool (false) ∧ T 1 = T10 1 ∧ T 3 = T10 3 ∧ T 4 = T10 4 ∧ L' = some (b4, .cells ((G (k + 1)).cells (.slice A1st (G (k + 1)).st.length c1st) (.slice A1pg (G (k + 1)).pg.length c1pg) (.slice A1mm (G (k + 1)).mm.length c1mm)).toArray 29 (0, 0)) :: s1' :: s2' :: s3' :: some (b1, .cells ((G k).cells (.slice A0st (G k).st.length c0st) (.slice A0pg (G k).pg.length c0pg) (.slice A0mm (G k).mm.length c0mm)).toArray 29 (0, 0)) :: s1 :: s2 :: s3 :: L ∧ (True)) (fun K19 hK19 => ?_) ?_
            · simp only [h10_1, h10_3, h10_4] at hK19
              simp (maxSteps:=1000000)(dsimp:=false)(disch:=omega) only [go_sem, Φa, hP, h10_1, h10_3, h10_4, h10_5, h10_6, hops]
              repeat' (first | refine iteB (fun hg => ?_) (fun hg => ?_) | refine iteI (fun hg => ?_) (fun hg => ?_) | ((first | refine And.intro (by omega) ?_ | refine ⟨_, Cell.at 0 rfl rfl, ?_⟩ | refine ⟨_, Cell.at 1 rfl rfl, ?_⟩ | refine ⟨_, Cell.at 2 rfl rfl, ?_⟩ | refine ⟨_, Cell.at 3 rfl rfl, ?_⟩ | refine ⟨_, Cell.at 4 rfl rfl, ?_⟩ | refine ⟨_, Cell.at 5 rfl rfl, ?_⟩ | refine ⟨_, Cell.at 6 rfl rfl, ?_⟩ | refine ⟨_, Cell.at 7 rfl rfl, ?_⟩ | fail); try (with_reducible refine stI ?_); try simp (maxSteps:=1000000)(dsimp:=false)(disch:=omega) only [go_sem, Φa, hP, h10_1, h10_3, h10_4, h10_5, h10_6, hops]) | fail)
              all_goals
                refine hK19 () _ (some (b4, .cells ((G (k + 1)).cells (.slice A1st (G (k + 1)).st.length c1st) (.slice A1pg (G (k + 1)).pg.length c1pg) (.slice A1mm (G (k + 1)).mm.length c1mm)).toArray 29 (0, 0)) :: s1' :: s2' :: s3' :: some (b1, .cells ((G k).cells (.slice A0st (G k).st.length c0st) (.slice A0pg (G k).pg.length c0pg) (.slice A0mm (G k).mm.length c0mm)).toArray 29 (0, 0)) :: s1 :: s2 :: s3 :: L) _ (by first | exact Less.refl _ | exact Less.drop _ _ | exact Less.drops (Less.drop _ _) | exact Less.drops (Less.drops (Less.drop _ _)) | exact Less.drops (Less.drops (Less.drops (Less.drop _ _))) | exact Less.drops (Less.drops (Less.drops (Less.drops (Less.drop _ _))))) ?_
                try dsimp only
                refine ⟨?_, ?_, ?_, ?_, ?_, ?_⟩
                · simp (maxSteps:=1000000)(dsimp:=false)(disch:=omega) only [go_sem, Φa, hP, h10_1, h10_3, h10_4, h10_5, h10_6]
                  first | done | exact congrArg _ (decide_eq_decide.2 (by omega)) | exact congrArg _ (decide_eq_true (by omega)).symm | exact congrArg _ (decide_eq_false (by omega)).symm
                · simp (maxSteps:=1000000)(dsimp:=false)(disch:=omega) only [go_sem, Φa, hP, h10_1, h10_3, h10_4, h10_5, h10_6]
                · simp (maxSteps:=1000000)(dsimp:=false)(disch:=omega) only [go_sem, Φa, hP, h10_1, h10_3, h10_4, h10_5, h10_6]
                · simp (maxSteps:=1000000)(dsimp:=false)(disch:=omega) only [go_sem, Φa, hP, h10_1, h10_3, h10_4, h10_5, h10_6]
                · rfl
                · trivial
            · intro ss T11 L11 hI
              simp only [h10_1, h10_3, h10_4] at hI 
              obtain ⟨h11_48, h11_1, h11_3, h11_4, hL11, hinv⟩ := hI
              replace hL11 := hL11.symm
              subst hL11
              clear h10_1 h10_3 h10_4 h10_5 h10_6 T10
              refine RX.done ?_
              simp (maxSteps:=1000000)(dsimp:=false)(disch:=omega) only [go_sem, Φa, hP, h11_48, h11_1, h11_3, h11_4, hops]
              refine hK18 _ _ ?_
              try clear hK18 K18
              refine SX.cond_k fun X20 Y20 hX20 hY20 => ?_
              simp (maxSteps:=1000000)(dsimp:=false)(disch:=omega) only [go_sem, Φa, hP, h11_48, h11_1, h11_3, h11_4, condVC]
              refine hY20 ?_
              clear hX20 hY20 X20 Y20
              refine SX.skip ?_
              try simp only [andThen_normal, andThen_ret, andThen_exit, inBlk_normal, inBlk_ret, inBlk_exit, Nat.reduceEqDiff, if_true, if_false, ↓reduceIte]
              refine hK17 _ _ ?_
              try clear hK17 K17
              refine SX.region_d [some 49, none] rfl (fun ops hops => ?_)
              unfold Dsts at hops
              simp (maxSteps:=1000000)(dsimp:=false)(disch:=omega) only [go_sem, Φa, hP, h11_48, h11_1, h11_3, h11_4, hops]
              refine ⟨_, Cell.at 0 rfl rfl, ?_⟩
              try with_reducible refine stI ?_
              try simp (maxSteps:=1000000)(dsimp:=false)(disch:=omega) only [go_sem, Φa, hP, h11_48, h11_1, h11_3, h11_4, hops]
              refine ⟨_, Cell.at 0 rfl rfl, ?_⟩
              try with_reducible refine stI ?_
              try simp (maxSteps:=1000000)(dsimp:=false)(disch:=omega) only [go_sem, Φa, hP, h11_48, h11_1, h11_3, h11_4, hops]
              refine ⟨_, Cell.at 0 rfl rfl, ?_⟩
              try with_reducible refine stI ?_
              try simp (maxSteps:=1000000)(dsimp:=false)(disch:=omega) only [go_sem, Φa, hP, h11_48, h11_1, h11_3, h11_4, hops]
              refine ⟨_, Cell.at 0 rfl rfl, ?_⟩
              try with_reducible refine stI ?_
              try simp (maxSteps:=1000000)(dsimp:=false)(disch:=omega) only [go_sem, Φa, hP, h11_48, h11_1, h11_3, h11_4, hops]
              refine ⟨_, Cell.at 0 rfl rfl, ?_⟩
              try with_reducible refine stI ?_
              try simp (maxSteps:=1000000)(dsimp:=false)(disch:=omega) only [go_sem, Φa, hP, h11_48, h11_1, h11_3, h11_4, hops]
              refine ⟨_, Cell.at 0 rfl rfl, ?_⟩
              try with_reducible refine stI ?_
              try simp (maxSteps:=1000000)(dsimp:=false)(disch:=omega) only [go_sem, Φa, hP, h11_48, h11_1, h11_3, h11_4, hops]
              refine ⟨_, Cell.at 0 rfl rfl, ?_⟩
              try with_reducible refine stI ?_
              try simp (maxSteps:=1000000)(dsimp:=false)(disch:=omega) only [go_sem, Φa, hP, h11_48, h11_1, h11_3, h11_4, hops]
              refine ⟨_, Cell.at 0 rfl rfl, ?_⟩
              try with_reducible refine stI ?_
              try simp (maxSteps:=1000000)(dsimp:=false)(disch:=omega) only [go_sem, Φa, hP, h11_48, h11_1, h11_3, h11_4, hops]
              refine ⟨_, Cell.at 0 rfl rfl, ?_⟩
              try with_reducible refine stI ?_
              try simp (maxSteps:=1000000)(dsimp:=false)(disch:=omega) only [go_sem, Φa, hP, h11_48, h11_1, h11_3, h11_4, hops]
              refine ⟨_, Cell.at 0 rfl rfl, ?_⟩
              try with_reducible refine stI ?_
              try simp (maxSteps:=1000000)(dsimp:=false)(disch:=omega) only [go_sem, Φa, hP, h11_48, h11_1, h11_3, h11_4, hops]
              refine ⟨_, Cell.at 0 rfl rfl, ?_⟩
              try with_reducible refine stI ?_
              try simp (maxSteps:=1000000)(dsimp:=false)(disch:=omega) only [go_sem, Φa, hP, h11_48, h11_1, h11_3, h11_4, hops]
              refine ⟨_, Cell.at 0 rfl rfl, ?_⟩
              try with_reducible refine stI ?_
              try simp (maxSteps:=1000000)(dsimp:=false)(disch:=omega) only [go_sem, Φa, hP, h11_48, h11_1, h11_3, h11_4, hops]
              refine ⟨_, Cell.at 0 rfl rfl, ?_⟩
              try with_reducible refine stI ?_
              try simp (maxSteps:=1000000)(dsimp:=false)(disch:=omega) only [go_sem, Φa, hP, h11_48, h11_1, h11_3, h11_4, hops]
              refine ⟨_, Cell.at 0 rfl rfl, ?_⟩
              try with_reducible refine stI ?_
              try simp (maxSteps:=1000000)(dsimp:=false)(disch:=omega) only [go_sem, Φa, hP, h11_48, h11_1, h11_3, h11_4, hops]
              refine ⟨_, Cell.at 0 rfl rfl, ?_⟩
              try with_reducible refine stI ?_
              try simp (maxSteps:=1000000)(dsimp:=false)(disch:=omega) only [go_sem, Φa, hP, h11_48, h11_1, h11_3, h11_4, hops]
              refine ⟨_, Cell.at 0 rfl rfl, ?_⟩
              try with_reducible refine stI ?_
              try simp (maxSteps:=1000000)(dsimp:=false)(disch:=omega) only [go_sem, Φa, hP, h11_48, h11_1, h11_3, h11_4, hops]
              refine ⟨_, Cell.at 0 rfl rfl, ?_⟩
              try with_reducible refine stI ?_
              try simp (maxSteps:=1000000)(dsimp:=false)(disch:=omega) only [go_sem, Φa, hP, h11_48, h11_1, h11_3, h11_4, hops]
              refine ⟨_, Cell.at 0 rfl rfl, ?_⟩
              try with_reducible refine stI ?_
              try simp (maxSteps:=1000000)(dsimp:=false)(disch:=omega) only [go_sem, Φa, hP, h11_48, h11_1, h11_3, h11_4, hops]
              refine ⟨_, Cell.at 0 rfl rfl, ?_⟩
              try with_reducible refine stI ?_
              try simp (maxSteps:=1000000)(dsimp:=false)(disch:=omega) only [go_sem, Φa, hP, h11_48, h11_1, h11_3, h11_4, hops]
              refine ⟨_, Cell.at 0 rfl rfl, ?_⟩
              try with_reducible refine stI ?_
              try simp (maxSteps:=1000000)(dsimp:=false)(disch:=omega) only [go_sem, Φa, hP, h11_48, h11_1, h11_3, h11_4, hops]
              refine ⟨_, Cell.at 0 rfl rfl, ?_⟩
              try with_reducible refine stI ?_
              try simp (maxSteps:=1000000)(dsimp:=false)(disch:=omega) only [go_sem, Φa, hP, h11_48, h11_1, h11_3, h11_4, hops]
              refine ⟨_, Cell.at 0 rfl rfl, ?_⟩
              try with_reducible refine stI ?_
              try simp (maxSteps:=1000000)(dsimp:=false)(disch:=omega) only [go_sem, Φa, hP, h11_48, h11_1, h11_3, h11_4, hops]
              refine ⟨_, Cell.at 0 rfl rfl, ?_⟩
              try with_reducible refine stI ?_
              try simp (maxSteps:=1000000)(dsimp:=false)(disch:=omega) only [go_sem, Φa, hP, h11_48, h11_1, h11_3, h11_4, hops]
              unfold GM.cells
              refine ⟨4, _, _, _, rfl, by simp, .inr (by decide), ?_⟩
              try with_reducible refine stI ?_
              try simp (maxSteps:=1000000)(dsimp:=false)(disch:=omega) only [go_sem, Φa, hP, h11_48, h11_1, h11_3, h11_4, hops]
              refine hK15 _ _ ?_
              try clear hK15 K15
              refine SX.region_d [some 33, some 34, some 3] rfl (fun ops hops => ?_)
              unfold Dsts at hops
              simp (maxSteps:=1000000)(dsimp:=false)(disch:=omega) only [go_sem, Φa, hP, h11_48, h11_1, h11_3, h11_4, hops]
              repeat' ((first | refine And.intro (by omega) ?_ | fail); try (with_reducible refine stI ?_); try simp (maxSteps:=1000000)(dsimp:=false)(disch:=omega) only [go_sem, Φa, hP, h11_48, h11_1, h11_3, h11_4, hops])
              refine hK11 (k + 1, .slice A1st (G (k + 1)).st.length c1st, .slice A1pg (G (k + 1)).pg.length c1pg, .slice A1mm (G (k + 1)).mm.length c1mm, s1', s2', s3') _ (some (b1, .cells ((G (k + 1)).cells (.slice A1st (G (k + 1)).st.length c1st) (.slice A1pg (G (k + 1)).pg.length c1pg) (.slice A1mm (G (k + 1)).mm.length c1mm)).toArray 29 (0, 0)) :: s1' :: s2' :: s3' :: L) _ (by exact (Less.sublist (.cons _ (.cons_cons _ (.cons_cons _ (.cons_cons _ (.cons_cons _ (.cons _ (.cons _ (.cons _ (List.Sublist.refl _)))))))))).trans (lessBox _ _ _ _ _)) ?_ ?_
              · try dsimp only
                refine ⟨?_, ?_, ?_, ?_⟩
                · simp (maxSteps:=1000000)(dsimp:=false)(disch:=omega) only [go_sem, Φa, hP, h11_48, h11_1, h11_3, h11_4]
                  first | done | rfl | skip
                · simp (maxSteps:=1000000)(dsimp:=false)(disch:=omega) only [go_sem, Φa, hP, h11_48, h11_1, h11_3, h11_4]
                · rfl
                · exact ⟨by omega, hr'⟩
              · (try dsimp only); omega
          · clear hX14 hY14 X14 Y14
            refine SX.exit ?_
            try simp only [andThen_normal, andThen_ret, andThen_exit, inBlk_normal, inBlk_ret, inBlk_exit, Nat.reduceEqDiff, if_true, if_false, ↓reduceIte]
            refine hK9 _ _ ?_
            try clear hK9 K9
            refine SX.seq_k fun K21 hK21 => ?_
            refine SX.region_xd [some 50, some 51, some 52, some 53, some 54, some 55, some 56, some 57, some 58, some 59, some 60, some 61, some 62, some 63, some 64, some 65, some 66, some 67, some 68, some 69, some 70, some 0] rfl (fun ops hops => ?_)
            unfold Dsts at hops
            refine RX.live [1] (fun T12 hT12 => ?_)
            simp only [forall_mem_cons', forall_mem_nil', go_sem, Φa, hP, h8_3, h8_1] at hT12
            have h12_1 := hT12; clear hT12
            clear h8_3 h8_1 T8
            obtain ⟨e1, e2, e15, ePC⟩ : (G k).V.getD 1 0 = 5 ∧ (G k).V.getD 2 0 = 4 ∧ (G k).V.getD 15 0 = 1 ∧ (G k).PC = 518 := by
              obtain rfl : k = 3 := by omega
              exact hend
            refine RX.join 10 (fun (ss : Unit) T L' => T 59 = .bool (true) ∧ T 1 = T12 1 ∧ L' = some (b1, .cells ((G k).cells sv pv mv).toArray 29 (0, 0)) :: s1 :: s2 :: s3 :: L ∧ (True)) (fun K22 hK22 => ?_) ?_
            · simp only [h12_1] at hK22
              simp (maxSteps:=1000000)(dsimp:=false)(disch:=omega) only [go_sem, Φa, hP, h12_1, hops]
              repeat' (first | refine iteB (fun hg => ?_) (fun hg => ?_) | refine iteI (fun hg => ?_) (fun hg => ?_) | ((first | refine ⟨_, Cell.at 0 rfl (show ((G k).cells sv pv mv)[1]? = some (.int .u8 ((G k).V.getD 1 0)) from rfl), ?_⟩ | refine ⟨_, Cell.at 0 rfl (show ((G k).cells sv pv mv)[2]? = some (.int .u8 ((G k).V.getD 2 0)) from rfl), ?_⟩ | refine ⟨_, Cell.at 0 rfl (show ((G k).cells sv pv mv)[15]? = some (.int .u8 ((G k).V.getD 15 0)) from rfl), ?_⟩ | refine ⟨_, Cell.at 0 rfl (show ((G k).cells sv pv mv)[17]? = some (.int .u16 (G k).PC) from rfl), ?_⟩ | refine And.intro (by omega) ?_ | refine ⟨_, Cell.at 0 rfl rfl, ?_⟩ | refine ⟨_, Cell.at 1 rfl rfl, ?_⟩ | refine ⟨_, Cell.at 2 rfl rfl, ?_⟩ | refine ⟨_, Cell.at 3 rfl rfl, ?_⟩ | fail); try (with_reducible refine stI ?_); try simp (maxSteps:=1000000)(dsimp:=false)(disch:=omega) only [go_sem, Φa, hP, h12_1, hops]) | fail)
              all_goals
                refine hK22 () _ (some (b1, .cells ((G k).cells sv pv mv).toArray 29 (0, 0)) :: s1 :: s2 :: s3 :: L) _ (by first | exact Less.refl _ | exact Less.drop _ _ | exact Less.drops (Less.drop _ _) | exact Less.drops (Less.drops (Less.drop _ _)) | exact Less.drops (Less.drops (Less.drops (Less.drop _ _))) | exact Less.drops (Less.drops (Less.drops (Less.drops (Less.drop _ _))))) ?_
                try dsimp only
                refine ⟨?_, ?_, ?_, ?_⟩
                · simp (maxSteps:=1000000)(dsimp:=false)(disch:=omega) only [go_sem, Φa, hP, h12_1]
                  first | done | exact congrArg _ (decide_eq_decide.2 (by omega)) | exact congrArg _ (decide_eq_true (by omega)).symm | exact congrArg _ (decide_eq_false (by omega)).symm
                · simp (maxSteps:=1000000)(dsimp:=false)(disch:=omega) only [go_sem, Φa, hP, h12_1]
                · rfl
                · trivial
            · intro ss T13 L13 hI
              simp only [h12_1] at hI 
              obtain ⟨h13_59, h13_1, hL13, hinv⟩ := hI
              replace hL13 := hL13.symm
              subst hL13
              clear h12_1 T12
              refine RX.live [1, 59] (fun T14 hT14 => ?_)
              simp only [forall_mem_cons', forall_mem_nil', go_sem, Φa, hP, h13_59, h13_1] at hT14
              obtain ⟨h14_1, h14_59⟩ := hT14
              clear h13_59 h13_1 T13
              refine RX.join 6 (fun (ss : Unit) T L' => T 65 = .bool (true) ∧ T 1 = T14 1 ∧ L' = some (b1, .cells ((G k).cells sv pv mv).toArray 29 (0, 0)) :: s1 :: s2 :: s3 :: L ∧ (True)) (fun K23 hK23 => ?_) ?_
              · simp only [h14_1] at hK23
                simp (maxSteps:=1000000)(dsimp:=false)(disch:=omega) only [go_sem, Φa, hP, h14_1, h14_59, hops]
                repeat' (first | refine iteB (fun hg => ?_) (fun hg => ?_) | refine iteI (fun hg => ?_) (fun hg => ?_) | ((first | refine ⟨_, Cell.at 0 rfl (show ((G k).cells sv pv mv)[1]? = some (.int .u8 ((G k).V.getD 1 0)) from rfl), ?_⟩ | refine ⟨_, Cell.at 0 rfl (show ((G k).cells sv pv mv)[2]? = some (.int .u8 ((G k).V.getD 2 0)) from rfl), ?_⟩ | refine ⟨_, Cell.at 0 rfl (show ((G k).cells sv pv mv)[15]? = some (.int .u8 ((G k).V.getD 15 0)) from rfl), ?_⟩ | refine ⟨_, Cell.at 0 rfl (show ((G k).cells sv pv mv)[17]? = some (.int .u16 (G k).PC) from rfl), ?_⟩ | refine And.intro (by omega) ?_ | refine ⟨_, Cell.at 0 rfl rfl, ?_⟩ | refine ⟨_, Cell.at 1 rfl rfl, ?_⟩ | refine ⟨_, Cell.at 2 rfl rfl, ?_⟩ | refine ⟨_, Cell.at 3 rfl rfl, ?_⟩ | fail); try (with_reducible refine stI ?_); try simp (maxSteps:=1000000)(dsimp:=false)(disch:=omega) only [go_sem, Φa, hP, h14_1, h14_59, hops]) | fail)
                all_goals
                  refine hK23 () _ (some (b1, .cells ((G k).cells sv pv mv).toArray 29 (0, 0)) :: s1 :: s2 :: s3 :: L) _ (by first | exact Less.refl _ | exact Less.drop _ _ | exact Less.drops (Less.drop _ _) | exact Less.drops (Less.drops (Less.drop _ _)) | exact Less.drops (Less.drops (Less.drops (Less.drop _ _))) | exact Less.drops (Less.drops (Less.drops (Less.drops (Less.drop _ _))))) ?_
                  try dsimp only
                  refine ⟨?_, ?_, ?_, ?_⟩
                  · simp (maxSteps:=1000000)(dsimp:=false)(disch:=omega) only [go_sem, Φa, hP, h14_1, h14_59]
                    first | done | exact congrArg _ (decide_eq_decide.2 (by omega)) | exact congrArg _ (decide_eq_true (by omega)).symm | exact congrArg _ (decide_eq_false (by omega)).symm
                  · simp (maxSteps:=1000000)(dsimp:=false)(disch:=omega) only [go_sem, Φa, hP, h14_1, h14_59]
                  · rfl
                  · trivial
              · intro ss T15 L15 hI
                simp only [h14_1] at hI 
                obtain ⟨h15_65, h15_1, hL15, hinv⟩ := hI
                replace hL15 := hL15.symm
                subst hL15
                clear h14_1 h14_59 T14
                refine RX.live [1, 65] (fun T16 hT16 => ?_)
                simp only [forall_mem_cons', forall_mem_nil', go_sem, Φa, hP, h15_65, h15_1] at hT16
                obtain ⟨h16_1, h16_65⟩ := hT16
                clear h15_65 h15_1 T15
                refine RX.join 5 (fun (ss : Unit) T L' => T 70 = .bool (true) ∧ L' = some (b1, .cells ((G k).cells sv pv mv).toArray 29 (0, 0)) :: s1 :: s2 :: s3 :: L ∧ (True)) (fun K24 hK24 => ?_) ?_
                · simp (maxSteps:=1000000)(dsimp:=false)(disch:=omega) only [go_sem, Φa, hP, h16_1, h16_65, hops]
                  repeat' (first | refine iteB (fun hg => ?_) (fun hg => ?_) | refine iteI (fun hg => ?_) (fun hg => ?_) | ((first | refine ⟨_, Cell.at 0 rfl (show ((G k).cells sv pv mv)[1]? = some (.int .u8 ((G k).V.getD 1 0)) from rfl), ?_⟩ | refine ⟨_, Cell.at 0 rfl (show ((G k).cells sv pv mv)[2]? = some (.int .u8 ((G k).V.getD 2 0)) from rfl), ?_⟩ | refine ⟨_, Cell.at 0 rfl (show ((G k).cells sv pv mv)[15]? = some (.int .u8 ((G k).V.getD 15 0)) from rfl), ?_⟩ | refine ⟨_, Cell.at 0 rfl (show ((G k).cells sv pv mv)[17]? = some (.int .u16 (G k).PC) from rfl), ?_⟩ | refine And.intro (by omega) ?_ | refine ⟨_, Cell.at 0 rfl rfl, ?_⟩ | refine ⟨_, Cell.at 1 rfl rfl, ?_⟩ | refine ⟨_, Cell.at 2 rfl rfl, ?_⟩ | refine ⟨_, Cell.at 3 rfl rfl, ?_⟩ | fail); try (with_reducible refine stI ?_); try simp (maxSteps:=1000000)(dsimp:=false)(disch:=omega) only [go_sem, Φa, hP, h16_1, h16_65, hops]) | fail)
                  all_goals
                    refine hK24 () _ (some (b1, .cells ((G k).cells sv pv mv).toArray 29 (0, 0)) :: s1 :: s2 :: s3 :: L) _ (by first | exact Less.refl _ | exact Less.drop _ _ | exact Less.drops (Less.drop _ _) | exact Less.drops (Less.drops (Less.drop _ _)) | exact Less.drops (Less.drops (Less.drops (Less.drop _ _))) | exact Less.drops (Less.drops (Less.drops (Less.drops (Less.drop _ _))))) ?_
                    try dsimp only
                    refine ⟨?_, ?_, ?_⟩
                    · simp (maxSteps:=1000000)(dsimp:=false)(disch:=omega) only [go_sem, Φa, hP, h16_1, h16_65]
                      first | done | exact congrArg _ (decide_eq_decide.2 (by omega)) | exact congrArg _ (decide_eq_true (by omega)).symm | exact congrArg _ (decide_eq_false (by omega)).symm
                    · rfl
                    · trivial
                · intro ss T17 L17 hI
                  obtain ⟨h17_70, hL17, hinv⟩ := hI
                  replace hL17 := hL17.symm
                  subst hL17
                  clear h16_1 h16_65 T16
                  refine RX.done ?_
                  simp (maxSteps:=1000000)(dsimp:=false)(disch:=omega) only [go_sem, Φa, hP, h17_70, hops]
                  refine hK21 _ _ ?_
                  try clear hK21 K21
                  refine SX.ret ?_
                  simp only [andThen_normal, andThen_ret, andThen_exit, inBlk_normal, inBlk_ret, inBlk_exit, Nat.reduceEqDiff, if_true, if_false, ↓reduceIte, retQ_ret]
                  try simp only [res0, res1, res2, res3, stK_e, go_sem, Φa, hP, h17_70]
                  exact ⟨_, _, Less.drops (Less.drops (Less.drops (Less.drop _ _))), rfl, rfl, rfl⟩

theorem awake_spec {Γ : Ctx} (hP : Γ.P = Try.prog) {L : Hp} : SCall Γ 11 #[] L (fun v L' => v = .bool true ∧ L' = L) :=
  awake_core (G := awG) hP aw_fine rfl aw_end (fun L v h => aw_new hP h) (fun L k sv pv mv hk hs hp hm => aw_call hP hk hs hp hm)

end Go.Proofs.Ytgioegdjeodpiaa
set_option linter.unusedVariables false
set_option linter.unusedSimpArgs false
namespace Go.Proofs.Ytgioegdjeodpiaa
open Go.RowKit Go.SX

def vastR (a b c d : Nat) : Bool := decide ((2147483647 : Int) < a) || decide ((2147483647 : Int) < b) || decide ((2147483647 : Int) < c) || decide ((2147483647 : Int) < d) || decide ((2147483647 : Int) < IntKind.i64.wrap (IntKind.i64.wrap (IntKind.i64.wrap ((a : Int) + b) + c) + d))
theorem vast_eq (g : GM) (f : Fnt) : vastR g.st.length g.pg.length g.mm.length f.bs.length = vastB g f := by
  unfold vastR vastB
  generalize g.st.length = a
  generalize g.pg.length = b
  generalize g.mm.length = c
  generalize f.bs.length = d
  by_cases h : a ≤ 2147483647 ∧ b ≤ 2147483647 ∧ c ≤ 2147483647 ∧ d ≤ 2147483647
  · obtain ⟨h1, h2, h3, h4⟩ := h
    rw [w64 (n := (a : Int) + b) (by omega), w64 (n := (a : Int) + b + c) (by omega), w64 (n := (a : Int) + b + c + d) (by omega)]
    rw [Bool.eq_iff_iff]
    simp only [Bool.or_eq_true, decide_eq_true_eq]
    omega
  · rw [Bool.eq_iff_iff]
    simp only [Bool.or_eq_true, decide_eq_true_eq]
    constructor
    · intro _; omega
    · intro _; omega
theorem vast_no {g : GM} {f : Fnt} (h : vastB g f = false) : g.st.length ≤ 2147483647 ∧ g.pg.length ≤ 2147483647 ∧ g.mm.length ≤ 2147483647 ∧ f.bs.length ≤ 2147483647 := by
  unfold vastB at h
  simp only [decide_eq_false_iff_not] at h
  omega
set_option maxHeartbeats 1000000 in
set_option maxRecDepth 100000 in
theorem vast_spec {Γ : Ctx} (hP : Γ.P = Try.prog) {L : Hp} {g : GM} {sv pv mv : Value} {f : Fnt} {fv : Value} (hs : SlI .u16 (Cell Γ L) sv g.st) (hp : SlI .u8 (Cell Γ L) pv g.pg) (hm : SlI .u8 (Cell Γ L) mv g.mm) (hf : SlI .u8 (Cell Γ L) fv f.bs) :
    SCall Γ 18 #[(.agg (g.cells sv pv mv).toArray), (.agg (f.cells fv).toArray)] L (fun v L' => v = .bool (vastB g f) ∧ L' = L) := by
  obtain ⟨As, cs, rfl, hcs⟩ := slShape hs
  obtain ⟨Ap, cp, rfl, hcp⟩ := slShape hp
  obtain ⟨Am, cm, rfl, hcm⟩ := slShape hm
  obtain ⟨Af, cf, rfl, hcf⟩ := slShape hf
  refine SCall.enter (n := 45) (res1 4) (hP ▸ Try.func18) rfl rfl (by simp) (res1_ok rfl) ?_
  refine SX.seq_k fun K1 hK1 => ?_
  refine SX.region_d [some 2, some 3, some 4] rfl (fun ops hops => ?_)
  unfold Dsts at hops
  simp (maxSteps := 1000000) (dsimp := false) (disch := omega) only [go_sem, ia_someH, hP, hops]
  intro b0
  try with_reducible refine stI ?_
  try simp (maxSteps := 1000000) (dsimp := false) (disch := omega) only [go_sem, ia_someH, hP, hops]
  intro b1
  try with_reducible refine stI ?_
  try simp (maxSteps := 1000000) (dsimp := false) (disch := omega) only [go_sem, ia_someH, hP, hops]
  refine hK1 _ _ ?_
  try clear hK1 K1
  refine SX.seq_k fun K2 hK2 => ?_
  refine SX.region_xd [some 5, some 6, some 7, some 8, some 9, some 10, some 11, some 12, some 13, some 14, some 15, some 16, some 17, some 18, some 19, some 20, some 21, some 22, some 23, some 24, some 25, some 26, some 27, some 28, some 29, some 30, some 31, some 32, some 33, some 34, some 35, some 36, some 37, some 38, some 39, some 40, some 41, some 42, some 43, some 44, some 4] rfl (fun ops hops => ?_)
  unfold Dsts at hops
  refine RX.live [2, 3] (fun T1 hT1 => ?_)
  simp only [forall_mem_cons', forall_mem_nil', go_sem, ia_someH, hP] at hT1
  obtain ⟨h1_2, h1_3⟩ := hT1
  refine RX.join 10 (fun (ss : Unit) T L' => T 14 = .bool (decide ((2147483647 : Int) < (g.st.length : Int)) || decide ((2147483647 : Int) < (g.pg.length : Int))) ∧ T 2 = T1 2 ∧ T 3 = T1 3 ∧ L' = some (b1, .cells (f.cells (.slice Af f.bs.length cf)).toArray 40 (0, 0)) :: some (b0, .cells (g.cells (.slice As g.st.length cs) (.slice Ap g.pg.length cp) (.slice Am g.mm.length cm)).toArray 29 (0, 0)) :: L ∧ (True)) (fun K3 hK3 => ?_) ?_
  · simp only [h1_2, h1_3] at hK3
    simp (maxSteps := 1000000) (dsimp := false) (disch := omega) only [go_sem, ia_someH, hP, h1_2, h1_3, hops]
    repeat' (first | refine iteB (fun hg => ?_) (fun hg => ?_) | refine iteI (fun hg => ?_) (fun hg => ?_) | ((first | refine ⟨_, Cell.at 1 rfl (show (g.cells _ _ _)[18]? = _ from rfl), ?_⟩ | refine ⟨_, Cell.at 1 rfl (show (g.cells _ _ _)[21]? = _ from rfl), ?_⟩ | refine ⟨_, Cell.at 1 rfl (show (g.cells _ _ _)[22]? = _ from rfl), ?_⟩ | refine ⟨_, Cell.at 0 rfl (show (f.cells _)[17]? = _ from rfl), ?_⟩ | refine And.intro (by omega) ?_ | refine ⟨_, Cell.at 0 rfl rfl, ?_⟩ | refine ⟨_, Cell.at 1 rfl rfl, ?_⟩ | fail); try (with_reducible refine stI ?_); try simp (maxSteps := 1000000) (dsimp := false) (disch := omega) only [go_sem, ia_someH, hP, h1_2, h1_3, hops]) | fail)
    all_goals
      refine hK3 () _ (some (b1, .cells (f.cells (.slice Af f.bs.length cf)).toArray 40 (0, 0)) :: some (b0, .cells (g.cells (.slice As g.st.length cs) (.slice Ap g.pg.length cp) (.slice Am g.mm.length cm)).toArray 29 (0, 0)) :: L) _ (by first | exact Less.refl _ | exact Less.drop _ _ | exact Less.drops (Less.drop _ _) | exact Less.drops (Less.drops (Less.drop _ _)) | exact Less.drops (Less.drops (Less.drops (Less.drop _ _))) | exact Less.drops (Less.drops (Less.drops (Less.drops (Less.drop _ _))))) ?_
      try dsimp only
      refine ⟨?_, ?_, ?_, ?_, ?_⟩
      · simp (maxSteps := 1000000) (dsimp := false) (disch := omega) only [go_sem, ia_someH, hP, h1_2, h1_3]
        first | done | (refine congrArg Value.bool ?_; rw [Bool.eq_iff_iff]; simp only [Bool.or_eq_true, Bool.or_eq_false_iff, decide_eq_true_eq, decide_eq_false_iff_not, Bool.true_eq_false, Bool.false_eq_true, true_iff, iff_true] at *; omega) | (refine congrArg Value.bool ?_; simp_all; done)
      · simp (maxSteps := 1000000) (dsimp := false) (disch := omega) only [go_sem, ia_someH, hP, h1_2, h1_3]
      · simp (maxSteps := 1000000) (dsimp := false) (disch := omega) only [go_sem, ia_someH, hP, h1_2, h1_3]
      · rfl
      · trivial
  · intro ss T2 L2 hI
    simp only [h1_2, h1_3] at hI 
    obtain ⟨h2_14, h2_2, h2_3, hL2, hinv⟩ := hI
    replace hL2 := hL2.symm
    subst hL2
    clear h1_2 h1_3 T1
    refine RX.live [2, 3, 14] (fun T3 hT3 => ?_)
    simp only [forall_mem_cons', forall_mem_nil', go_sem, ia_someH, hP, h2_14, h2_2, h2_3] at hT3
    obtain ⟨h3_2, h3_3, h3_14⟩ := hT3
    clear h2_14 h2_2 h2_3 T2
    refine RX.join 6 (fun (ss : Unit) T L' => T 20 = .bool (decide ((2147483647 : Int) < (g.st.length : Int)) || decide ((2147483647 : Int) < (g.pg.length : Int)) || decide ((2147483647 : Int) < (g.mm.length : Int))) ∧ T 2 = T3 2 ∧ T 3 = T3 3 ∧ L' = some (b1, .cells (f.cells (.slice Af f.bs.length cf)).toArray 40 (0, 0)) :: some (b0, .cells (g.cells (.slice As g.st.length cs) (.slice Ap g.pg.length cp) (.slice Am g.mm.length cm)).toArray 29 (0, 0)) :: L ∧ (True)) (fun K4 hK4 => ?_) ?_
    · simp only [h3_2, h3_3] at hK4
      simp (maxSteps := 1000000) (dsimp := false) (disch := omega) only [go_sem, ia_someH, hP, h3_2, h3_3, h3_14, hops]
      repeat' (first | refine iteB (fun hg => ?_) (fun hg => ?_) | refine iteI (fun hg => ?_) (fun hg => ?_) | ((first | refine ⟨_, Cell.at 1 rfl (show (g.cells _ _ _)[18]? = _ from rfl), ?_⟩ | refine ⟨_, Cell.at 1 rfl (show (g.cells _ _ _)[21]? = _ from rfl), ?_⟩ | refine ⟨_, Cell.at 1 rfl (show (g.cells _ _ _)[22]? = _ from rfl), ?_⟩ | refine ⟨_, Cell.at 0 rfl (show (f.cells _)[17]? = _ from rfl), ?_⟩ | refine And.intro (by omega) ?_ | refine ⟨_, Cell.at 0 rfl rfl, ?_⟩ | refine ⟨_, Cell.at 1 rfl rfl, ?_⟩ | fail); try (with_reducible refine stI ?_); try simp (maxSteps := 1000000) (dsimp := false) (disch := omega) only [go_sem, ia_someH, hP, h3_2, h3_3, h3_14, hops]) | fail)
      all_goals
        refine hK4 () _ (some (b1, .cells (f.cells (.slice Af f.bs.length cf)).toArray 40 (0, 0)) :: some (b0, .cells (g.cells (.slice As g.st.length cs) (.slice Ap g.pg.length cp) (.slice Am g.mm.length cm)).toArray 29 (0, 0)) :: L) _ (by first | exact Less.refl _ | exact Less.drop _ _ | exact Less.drops (Less.drop _ _) | exact Less.drops (Less.drops (Less.drop _ _)) | exact Less.drops (Less.drops (Less.drops (Less.drop _ _))) | exact Less.drops (Less.drops (Less.drops (Less.drops (Less.drop _ _))))) ?_
        try dsimp only
        refine ⟨?_, ?_, ?_, ?_, ?_⟩
        · simp (maxSteps := 1000000) (dsimp := false) (disch := omega) only [go_sem, ia_someH, hP, h3_2, h3_3, h3_14]
          first | done | (refine congrArg Value.bool ?_; rw [Bool.eq_iff_iff]; simp only [Bool.or_eq_true, Bool.or_eq_false_iff, decide_eq_true_eq, decide_eq_false_iff_not, Bool.true_eq_false, Bool.false_eq_true, true_iff, iff_true] at *; omega) | (refine congrArg Value.bool ?_; simp_all; done)
        · simp (maxSteps := 1000000) (dsimp := false) (disch := omega) only [go_sem, ia_someH, hP, h3_2, h3_3, h3_14]
        · simp (maxSteps := 1000000) (dsimp := false) (disch := omega) only [go_sem, ia_someH, hP, h3_2, h3_3, h3_14]
        · rfl
        · trivial
    · intro ss T4 L4 hI
      simp only [h3_2, h3_3] at hI 
      obtain ⟨h4_20, h4_2, h4_3, hL4, hinv⟩ := hI
      replace hL4 := hL4.symm
      subst hL4
      clear h3_2 h3_3 h3_14 T3
      refine RX.live [2, 3, 20] (fun T5 hT5 => ?_)
      simp only [forall_mem_cons', forall_mem_nil', go_sem, ia_someH, hP, h4_20, h4_2, h4_3] at hT5
      obtain ⟨h5_2, h5_3, h5_20⟩ := hT5
      clear h4_20 h4_2 h4_3 T4
      refine RX.join 6 (fun (ss : Unit) T L' => T 26 = .bool (decide ((2147483647 : Int) < (g.st.length : Int)) || decide ((2147483647 : Int) < (g.pg.length : Int)) || decide ((2147483647 : Int) < (g.mm.length : Int)) || decide ((2147483647 : Int) < (f.bs.length : Int))) ∧ T 2 = T5 2 ∧ T 3 = T5 3 ∧ L' = some (b1, .cells (f.cells (.slice Af f.bs.length cf)).toArray 40 (0, 0)) :: some (b0, .cells (g.cells (.slice As g.st.length cs) (.slice Ap g.pg.length cp) (.slice Am g.mm.length cm)).toArray 29 (0, 0)) :: L ∧ (True)) (fun K5 hK5 => ?_) ?_
      · simp only [h5_2, h5_3] at hK5
        simp (maxSteps := 1000000) (dsimp := false) (disch := omega) only [go_sem, ia_someH, hP, h5_2, h5_3, h5_20, hops]
        repeat' (first | refine iteB (fun hg => ?_) (fun hg => ?_) | refine iteI (fun hg => ?_) (fun hg => ?_) | ((first | refine ⟨_, Cell.at 1 rfl (show (g.cells _ _ _)[18]? = _ from rfl), ?_⟩ | refine ⟨_, Cell.at 1 rfl (show (g.cells _ _ _)[21]? = _ from rfl), ?_⟩ | refine ⟨_, Cell.at 1 rfl (show (g.cells _ _ _)[22]? = _ from rfl), ?_⟩ | refine ⟨_, Cell.at 0 rfl (show (f.cells _)[17]? = _ from rfl), ?_⟩ | refine And.intro (by omega) ?_ | refine ⟨_, Cell.at 0 rfl rfl, ?_⟩ | refine ⟨_, Cell.at 1 rfl rfl, ?_⟩ | fail); try (with_reducible refine stI ?_); try simp (maxSteps := 1000000) (dsimp := false) (disch := omega) only [go_sem, ia_someH, hP, h5_2, h5_3, h5_20, hops]) | fail)
        all_goals
          refine hK5 () _ (some (b1, .cells (f.cells (.slice Af f.bs.length cf)).toArray 40 (0, 0)) :: some (b0, .cells (g.cells (.slice As g.st.length cs) (.slice Ap g.pg.length cp) (.slice Am g.mm.length cm)).toArray 29 (0, 0)) :: L) _ (by first | exact Less.refl _ | exact Less.drop _ _ | exact Less.drops (Less.drop _ _) | exact Less.drops (Less.drops (Less.drop _ _)) | exact Less.drops (Less.drops (Less.drops (Less.drop _ _))) | exact Less.drops (Less.drops (Less.drops (Less.drops (Less.drop _ _))))) ?_
          try dsimp only
          refine ⟨?_, ?_, ?_, ?_, ?_⟩
          · simp (maxSteps := 1000000) (dsimp := false) (disch := omega) only [go_sem, ia_someH, hP, h5_2, h5_3, h5_20]
            first | done | (refine congrArg Value.bool ?_; rw [Bool.eq_iff_iff]; simp only [Bool.or_eq_true, Bool.or_eq_false_iff, decide_eq_true_eq, decide_eq_false_iff_not, Bool.true_eq_false, Bool.false_eq_true, true_iff, iff_true] at *; omega) | (refine congrArg Value.bool ?_; simp_all; done)
          · simp (maxSteps := 1000000) (dsimp := false) (disch := omega) only [go_sem, ia_someH, hP, h5_2, h5_3, h5_20]
          · simp (maxSteps := 1000000) (dsimp := false) (disch := omega) only [go_sem, ia_someH, hP, h5_2, h5_3, h5_20]
          · rfl
          · trivial
      · intro ss T6 L6 hI
        simp only [h5_2, h5_3] at hI 
        obtain ⟨h6_26, h6_2, h6_3, hL6, hinv⟩ := hI
        replace hL6 := hL6.symm
        subst hL6
        clear h5_2 h5_3 h5_20 T5
        refine RX.live [2, 3, 26] (fun T7 hT7 => ?_)
        simp only [forall_mem_cons', forall_mem_nil', go_sem, ia_someH, hP, h6_26, h6_2, h6_3] at hT7
        obtain ⟨h7_2, h7_3, h7_26⟩ := hT7
        clear h6_26 h6_2 h6_3 T6
        refine RX.join 18 (fun (ss : Unit) T L' => T 44 = .bool (decide ((2147483647 : Int) < (g.st.length : Int)) || decide ((2147483647 : Int) < (g.pg.length : Int)) || decide ((2147483647 : Int) < (g.mm.length : Int)) || decide ((2147483647 : Int) < (f.bs.length : Int)) || decide ((2147483647 : Int) < IntKind.i64.wrap (IntKind.i64.wrap (IntKind.i64.wrap ((g.st.length : Int) + (g.pg.length : Int)) + (g.mm.length : Int)) + (f.bs.length : Int)))) ∧ L' = some (b1, .cells (f.cells (.slice Af f.bs.length cf)).toArray 40 (0, 0)) :: some (b0, .cells (g.cells (.slice As g.st.length cs) (.slice Ap g.pg.length cp) (.slice Am g.mm.length cm)).toArray 29 (0, 0)) :: L ∧ (True)) (fun K6 hK6 => ?_) ?_
        · simp (maxSteps := 1000000) (dsimp := false) (disch := omega) only [go_sem, ia_someH, hP, h7_2, h7_3, h7_26, hops]
          repeat' (first | refine iteB (fun hg => ?_) (fun hg => ?_) | refine iteI (fun hg => ?_) (fun hg => ?_) | ((first | refine ⟨_, Cell.at 1 rfl (show (g.cells _ _ _)[18]? = _ from rfl), ?_⟩ | refine ⟨_, Cell.at 1 rfl (show (g.cells _ _ _)[21]? = _ from rfl), ?_⟩ | refine ⟨_, Cell.at 1 rfl (show (g.cells _ _ _)[22]? = _ from rfl), ?_⟩ | refine ⟨_, Cell.at 0 rfl (show (f.cells _)[17]? = _ from rfl), ?_⟩ | refine And.intro (by omega) ?_ | refine ⟨_, Cell.at 0 rfl rfl, ?_⟩ | refine ⟨_, Cell.at 1 rfl rfl, ?_⟩ | fail); try (with_reducible refine stI ?_); try simp (maxSteps := 1000000) (dsimp := false) (disch := omega) only [go_sem, ia_someH, hP, h7_2, h7_3, h7_26, hops]) | fail)
          all_goals
            refine hK6 () _ (some (b1, .cells (f.cells (.slice Af f.bs.length cf)).toArray 40 (0, 0)) :: some (b0, .cells (g.cells (.slice As g.st.length cs) (.slice Ap g.pg.length cp) (.slice Am g.mm.length cm)).toArray 29 (0, 0)) :: L) _ (by first | exact Less.refl _ | exact Less.drop _ _ | exact Less.drops (Less.drop _ _) | exact Less.drops (Less.drops (Less.drop _ _)) | exact Less.drops (Less.drops (Less.drops (Less.drop _ _))) | exact Less.drops (Less.drops (Less.drops (Less.drops (Less.drop _ _))))) ?_
            try dsimp only
            refine ⟨?_, ?_, ?_⟩
            · simp (maxSteps := 1000000) (dsimp := false) (disch := omega) only [go_sem, ia_someH, hP, h7_2, h7_3, h7_26]
              first | done | (refine congrArg Value.bool ?_; rw [Bool.eq_iff_iff]; simp only [Bool.or_eq_true, Bool.or_eq_false_iff, decide_eq_true_eq, decide_eq_false_iff_not, Bool.true_eq_false, Bool.false_eq_true, true_iff, iff_true] at *; omega) | (refine congrArg Value.bool ?_; simp_all; done)
            · rfl
            · trivial
        · intro ss T8 L8 hI
          obtain ⟨h8_44, hL8, hinv⟩ := hI
          replace hL8 := hL8.symm
          subst hL8
          clear h7_2 h7_3 h7_26 T7
          refine RX.done ?_
          simp (maxSteps := 1000000) (dsimp := false) (disch := omega) only [go_sem, ia_someH, hP, h8_44, hops]
          refine hK2 _ _ ?_
          try clear hK2 K2
          refine SX.ret ?_
          simp only [andThen_normal, andThen_ret, andThen_exit, inBlk_normal, inBlk_ret, inBlk_exit, Nat.reduceEqDiff, if_true, if_false, ↓reduceIte, retQ_ret]
          try simp only [res0, res1, res2, res3, stK_e, go_sem, ia_someH, hP, h8_44]
          refine ⟨_, _, Less.drops (Less.drop _ _), rfl, ?_, rfl⟩
          exact congrArg Value.bool (vast_eq g f)

end Go.Proofs.Ytgioegdjeodpiaa
set_option linter.unusedVariables false
set_option linter.unusedSimpArgs false
namespace Go.Proofs.Ytgioegdjeodpiaa
open Go.RowKit Go.SX

theorem stepG_err {g : GM} {f : Fnt} {d : Feed} (h : checkE g = 0) (he : (stepG g f d).2.2 ≠ 0) : stepG g f d = (zeroG, 0, 1) := by
  unfold stepG at he ⊢
  rw [if_neg (by rw [h]; simp)] at he ⊢
  split
  · rfl
  · rename_i h1
    rw [if_neg h1] at he
    split at he
    · exact absurd rfl he
    · dsimp only at he
      split at he <;> exact absurd rfl he
end Go.Proofs.Ytgioegdjeodpiaa
set_option linter.unusedVariables false
set_option linter.unusedSimpArgs false
namespace Go.Proofs.Ytgioegdjeodpiaa
open Go.ChangeShapes Go.WideShapes Go.ChangeAt Go.RowKit Go.SX
/-! What is handed in: games, fonts, feeds. -/
theorem own : ownKnob Try.prog.godebug = none := by kernel_rfl
theorem laidOut : laidOutB Try.prog = true := by kernel_rfl
theorem cells5 : Try.prog.cellsOf 5 = 1 := by kernel_rfl
theorem cells26 : Try.prog.cellsOf 26 = 1 := by kernel_rfl
theorem cells29 : Try.prog.cellsOf 29 = 23 := by kernel_rfl
theorem cells40 : Try.prog.cellsOf 40 = 18 := by kernel_rfl
theorem flat25 : flatK Try.prog 9 25 = some (List.replicate 16 (.i .u8)) := by kernel_rfl
theorem flat38 : flatK Try.prog 9 38 = some (List.replicate 16 (.i .u16)) := by kernel_rfl
theorem flat50 : flatK Try.prog 9 50 = some [.i .u8, .i .u16, .i .i64] := by kernel_rfl
theorem vals_n {k : IntKind} : ∀ {n : Nat} {cs : List Value}, okVs (List.replicate n (.i k)) cs = true → ∃ l : List Int, l.length = n ∧ cs = ints k l ∧ ∀ x ∈ l, (Lit.int k x).wf = true
  | 0, cs, h => ⟨[], rfl, by rw [okVs_nil h]; rfl, fun x hx => by simp at hx⟩
  | n + 1, cs, h => by
    obtain ⟨x, vs, rfl, hw, h'⟩ := okVs_i (show okVs (.i k :: List.replicate n (.i k)) cs = true from h)
    obtain ⟨l, hl, rfl, hl2⟩ := vals_n h'
    exact ⟨x :: l, by rw [List.length_cons, hl], rfl, fun y hy => by
      rcases List.mem_cons.1 hy with rfl | hy
      · exact hw
      · exact hl2 y hy⟩
theorem bu8 {n : Int} (h : (Lit.int .u8 n).wf = true) : 0 ≤ n ∧ n ≤ 255 := bounds_u8 h
theorem bu16 {n : Int} (h : (Lit.int .u16 n).wf = true) : 0 ≤ n ∧ n ≤ 65535 := by simpa [wf_u16] using h
theorem bi64 {n : Int} (h : (Lit.int .i64 n).wf = true) : -9223372036854775808 ≤ n ∧ n ≤ 9223372036854775807 := by simpa [wf_i64] using h
theorem open_int1 {H : Type} {enc : TypeId × Value → H} {P : Program} {t : TypeId} {k : IntKind} {W : World} {v : Value} {n : Nat} {y : DataW H × List MemPlace} (hu : P.underlying t = some (.int k)) (hf : DataW.trod enc P W 0 (fun _ => true) true n t [v] = some y) : ∃ x : Int, v = .int k x ∧ (Lit.int k x).wf = true := by
  cases n with
  | zero => simp [DataW.trod] at hf
  | succ n =>
    unfold DataW.trod at hf
    rw [hu] at hf
    cases v with
    | int k' x =>
      simp only at hf
      split at hf
      · rename_i h; exact ⟨x, by rw [h.1], by rw [← h.1]; first | exact h.2 | (rw [h.1]; exact h.2)⟩
      · cases hf
    | _ => simp at hf
theorem cells_eq {g : GM} {sv pv mv : Value} (hV : g.V.length = 16) : g.cells sv pv mv = ints .u8 g.V ++ [.int .u16 g.I, .int .u16 g.PC, sv, .int .u8 g.dl, .int .u8 g.sd, pv, mv] := by
  unfold GM.cells
  conv => rhs; rw [list16 hV]
  rfl
theorem fcells_eq {f : Fnt} {fv : Value} (hV : f.at_.length = 16) : f.cells fv = ints .u16 f.at_ ++ [.int .u16 f.from_, fv] := by
  unfold Fnt.cells
  conv => rhs; rw [list16 hV]
  rfl
section
variable {H : Type} {enc : TypeId × Value → H} {W : World} {base : Nat} {v : Value} {d : DataW H} {p : List MemPlace}
def GameIn (W : World) (g : GM) (sv pv mv : Value) : Prop := OkG g ∧ SlI .u16 (Cell ⟨Try.prog, W, []⟩ []) sv g.st ∧ SlI .u8 (Cell ⟨Try.prog, W, []⟩ []) pv g.pg ∧ SlI .u8 (Cell ⟨Try.prog, W, []⟩ []) mv g.mm ∧ g.st.length ≤ 9223372036854775807 ∧ g.pg.length ≤ 9223372036854775807 ∧ g.mm.length ≤ 9223372036854775807
def FontIn (W : World) (f : Fnt) (fv : Value) : Prop := OkF f ∧ SlI .u8 (Cell ⟨Try.prog, W, []⟩ []) fv f.bs ∧ f.bs.length ≤ 9223372036854775807
def FeedIn (d : Feed) : Prop := OkD d ∧ -9223372036854775808 ≤ d.key ∧ d.key ≤ 9223372036854775807
set_option maxRecDepth 100000 in
theorem open_gameV {n : Nat} {cs : List Value} {y : DataW H × List MemPlace} (hy : DataW.trod enc Try.prog W 0 (fun _ => true) true n 29 cs = some y) :
    ∃ (g : GM) (sv pv mv : Value), cs = g.cells sv pv mv ∧ GameIn W g sv pv mv := by
  obtain ⟨xs, m, _, _, hcs, hxs, hf⟩ := DataW.trod_struct Try.underlying29 hy
  rw [cells29] at hcs
  match cs, hcs with
  | [c0, c1, c2, c3, c4, c5, c6, c7, c8, c9, c10, c11, c12, c13, c14, c15, c16, c17, c18, c19, c20, c21, c22], _ =>
    have h0 : DataW.trod enc Try.prog W 0 (fun _ => true) true m 25 [c0, c1, c2, c3, c4, c5, c6, c7, c8, c9, c10, c11, c12, c13, c14, c15] = xs[0]? := hf 0 _ rfl
    have h1 : DataW.trod enc Try.prog W 0 (fun _ => true) true m 26 [c16] = xs[1]? := hf 1 _ rfl
    have h2 : DataW.trod enc Try.prog W 0 (fun _ => true) true m 26 [c17] = xs[2]? := hf 2 _ rfl
    have h3 : DataW.trod enc Try.prog W 0 (fun _ => true) true m 27 [c18] = xs[3]? := hf 3 _ rfl
    have h4 : DataW.trod enc Try.prog W 0 (fun _ => true) true m 5 [c19] = xs[4]? := hf 4 _ rfl
    have h5 : DataW.trod enc Try.prog W 0 (fun _ => true) true m 5 [c20] = xs[5]? := hf 5 _ rfl
    have h6 : DataW.trod enc Try.prog W 0 (fun _ => true) true m 23 [c21] = xs[6]? := hf 6 _ rfl
    have h7 : DataW.trod enc Try.prog W 0 (fun _ => true) true m 23 [c22] = xs[7]? := hf 7 _ rfl
    rw [List.getElem?_eq_getElem (by rw [hxs]; decide)] at h0 h1 h2 h3 h4 h5 h6 h7
    obtain ⟨V, hV, eV, wV⟩ := vals_n (trod_flat 9 25 _ _ _ _ flat25 h0)
    obtain ⟨I, rfl, wI⟩ := open_int1 Try.underlying26 h1
    obtain ⟨PC, rfl, wPC⟩ := open_int1 Try.underlying26 h2
    obtain ⟨st, hst, wst, lst⟩ := open_slv (v := c18) Try.underlying27 Try.underlying26 cells26 h3
    obtain ⟨dl, rfl, wdl⟩ := open_int1 Try.underlying5 h4
    obtain ⟨sd, rfl, wsd⟩ := open_int1 Try.underlying5 h5
    obtain ⟨pg, hpg, wpg, lpg⟩ := open_slv (v := c21) Try.underlying23 Try.underlying5 cells5 h6
    obtain ⟨mm, hmm, wmm, lmm⟩ := open_slv (v := c22) Try.underlying23 Try.underlying5 cells5 h7
    refine ⟨⟨V, I, PC, st, dl, sd, pg, mm⟩, c18, c21, c22, ?_, ⟨hV, fun x hx => bu8 (wV x hx), bu16 wI, bu16 wPC, fun x hx => bu16 (wst x hx), bu8 wdl, bu8 wsd, fun x hx => bu8 (wpg x hx), fun x hx => bu8 (wmm x hx)⟩, hst, hpg, hmm, lst, lpg, lmm⟩
    rw [cells_eq hV, ← eV]
    rfl
set_option maxRecDepth 100000 in
theorem open_fontV {n : Nat} {cs : List Value} {y : DataW H × List MemPlace} (hy : DataW.trod enc Try.prog W 0 (fun _ => true) true n 40 cs = some y) :
    ∃ (f : Fnt) (fv : Value), cs = f.cells fv ∧ FontIn W f fv := by
  obtain ⟨xs, m, _, _, hcs, hxs, hf⟩ := DataW.trod_struct Try.underlying40 hy
  rw [cells40] at hcs
  match cs, hcs with
  | [c0, c1, c2, c3, c4, c5, c6, c7, c8, c9, c10, c11, c12, c13, c14, c15, c16, c17], _ =>
    have h0 : DataW.trod enc Try.prog W 0 (fun _ => true) true m 38 [c0, c1, c2, c3, c4, c5, c6, c7, c8, c9, c10, c11, c12, c13, c14, c15] = xs[0]? := hf 0 _ rfl
    have h1 : DataW.trod enc Try.prog W 0 (fun _ => true) true m 26 [c16] = xs[1]? := hf 1 _ rfl
    have h2 : DataW.trod enc Try.prog W 0 (fun _ => true) true m 23 [c17] = xs[2]? := hf 2 _ rfl
    rw [List.getElem?_eq_getElem (by rw [hxs]; decide)] at h0 h1 h2
    obtain ⟨V, hV, eV, wV⟩ := vals_n (trod_flat 9 38 _ _ _ _ flat38 h0)
    obtain ⟨fr, rfl, wfr⟩ := open_int1 Try.underlying26 h1
    obtain ⟨bs, hbs, wbs, lbs⟩ := open_slv (v := c17) Try.underlying23 Try.underlying5 cells5 h2
    refine ⟨⟨V, fr, bs⟩, c17, ?_, ⟨hV, fun x hx => bu16 (wV x hx), bu16 wfr, fun x hx => bu8 (wbs x hx)⟩, hbs, lbs⟩
    rw [fcells_eq hV, ← eV]
    rfl
theorem open_feedC {cs : List Value} (h : okVs [.i .u8, .i .u16, .i .i64] cs = true) : ∃ d : Feed, cs = d.cells ∧ FeedIn d := by
  obtain ⟨a, l0, rfl, wa, h⟩ := okVs_i h
  obtain ⟨b, l1, rfl, wb, h⟩ := okVs_i h
  obtain ⟨c, l2, rfl, wc, h⟩ := okVs_i h
  obtain rfl := okVs_nil h
  exact ⟨⟨a, b, c⟩, rfl, ⟨bu8 wa, bu16 wb⟩, bi64 wc⟩
set_option maxRecDepth 100000 in
theorem open_game (hv : Value.okWide Try.prog W .any base 29 v) (h : DataW.Trod enc Try.prog W 0 (fun _ => true) true 29 v d p) :
    ∃ (g : GM) (sv pv mv : Value), v = .agg (g.cells sv pv mv).toArray ∧ GameIn W g sv pv mv := by
  obtain ⟨cs, rfl, _⟩ := okWide_struct Try.underlying29 hv
  obtain ⟨fuel, hf⟩ := h
  obtain ⟨g, sv, pv, mv, e, hg⟩ := open_gameV hf
  exact ⟨g, sv, pv, mv, by rw [← e]; rfl, hg⟩
set_option maxRecDepth 100000 in
theorem open_font (hv : Value.okWide Try.prog W .any base 40 v) (h : DataW.Trod enc Try.prog W 0 (fun _ => true) true 40 v d p) :
    ∃ (f : Fnt) (fv : Value), v = .agg (f.cells fv).toArray ∧ FontIn W f fv := by
  obtain ⟨cs, rfl, _⟩ := okWide_struct Try.underlying40 hv
  obtain ⟨fuel, hf⟩ := h
  obtain ⟨f, fv, e, hg⟩ := open_fontV hf
  exact ⟨f, fv, by rw [← e]; rfl, hg⟩
set_option maxRecDepth 100000 in
theorem open_feed (hv : Value.okWide Try.prog W .any base 50 v) (h : DataW.Trod enc Try.prog W 0 (fun _ => true) true 50 v d p) :
    ∃ x : Feed, v = .agg x.cells.toArray ∧ FeedIn x := by
  obtain ⟨cs, rfl, _⟩ := okWide_struct Try.underlying50 hv
  obtain ⟨x, e, hx⟩ := open_feedC (open_flat flat50 h)
  exact ⟨x, by rw [← e]; rfl, hx⟩
end
end Go.Proofs.Ytgioegdjeodpiaa
