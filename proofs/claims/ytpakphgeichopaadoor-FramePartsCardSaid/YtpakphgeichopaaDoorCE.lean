/- A part of a proof: contracts and plain facts that it stands on. -/
import Derived.Test.YtpakphgeichopaaDoorCD
import Derived.Shelf.Strings.Builder1
import Derived.Shelf.Strings.BuilderF
import Derived.Shelf.Strings.BuilderK
import Derived.Shelf.Strings.Search1
import Derived.Shelf.Strings.Search2
import Derived.Shelf.Strings.Cut
import Derived.Shelf.LaysM
import Derived.Shelf.Strings.Shaped
import Derived.Shelf.Strings.BuilderCap
import Derived.Test.YtpakphgeichopaaDoorProg
import Derived.Lib.Builder
import Derived.Laws.Externs
set_option linter.unusedVariables false
set_option linter.unusedSimpArgs false
namespace Go.Proofs.YtpakphgeichopaaDoor
open Go.RowKit Go.SX
open Go.SX renaming ia_someH → Φa

theorem less_ins {a : Slot} {L : Hp} : Less (a :: L) (a :: none :: L) := (Less.none _).trans (Less.perm (List.Perm.swap _ _ _))
theorem less_fin {a b e c s gp : Slot} {fs : List Ff} {p : Ff} {L : Hp} : Less (a :: b :: e :: c :: s :: gp :: (p.2.seg ++ (segs fs ++ L))) (c :: s :: (nowH none ++ (segs (fs ++ [p]) ++ L))) := by
  rw [segs_app, List.append_assoc]
  exact Less.drops (Less.drops (Less.drops drop_mid))
theorem lessG24 {a x b c g : Slot} {d : Fd} {R : Hp} : Less (a :: x :: b :: c :: g :: (d.seg ++ R)) [x, g, some (d.g, .cells d.vals.toArray 50 (0, 0))] :=
  Less.sublist (.cons _ (.cons_cons _ (.cons _ (.cons _ (.cons_cons _ (.cons_cons _ (List.nil_sublist _)))))))
theorem seg_set {d : Fd} {R : Hp} {k : Nat} {s : Slot} (h : k < d.ss.length) : (d.seg ++ R).set (k + 1) s = (Fd.mk d.g d.vals (d.ss.set k s)).seg ++ R := by
  show some _ :: (d.ss ++ R).set k s = _
  rw [List.set_append_left _ _ h]
  rfl
theorem less24 {a b c e s g s' : Slot} {d : Fd} {R : Hp} {k : Nat} {V : List Value} (h : k < d.ss.length) : Less (a :: b :: c :: e :: s :: g :: ((d.seg ++ R).set (k + 1) s').set 0 (some (d.g, .cells V.toArray 50 (0, 0)))) (b :: c :: e :: s :: g :: ((Fd.mk d.g V (d.ss.set k s')).seg ++ R)) := by
  rw [seg_set h]
  exact Less.drop _ _
theorem less_end {a s : Slot} {M R : Hp} : Less (a :: s :: (M ++ R)) (s :: R) := Less.drops (Less.sublist (.cons_cons _ (List.sublist_append_right M R)))
theorem begunN_cnt {x : Ras} {w : Option (Int × List (List Int))} {k : Int} {m : Nat} (h : ∀ a rows, w = some (a, rows) → cnt rows ≤ m ∧ rows.length = 128) {a : Int} {rows : List (List Int)} (hb : begunN x w k = some (a, rows)) : cnt rows ≤ m ∧ rows.length = 128 := by
  unfold begunN at hb
  split at hb
  · cases hb; exact ⟨by rw [cnt_rep]; omega, List.length_replicate ..⟩
  · exact h a rows hb
theorem stAt_out (x : Ras) (l : List Rc) : ∀ k, (stAt x l k).out.length ≤ k
  | 0 => Nat.le_refl _
  | k + 1 => by
    have h := stAt_out x l k
    rw [stAt]
    unfold stF
    split
    · show (stAt x l k).out.length ≤ _; omega
    · split
      · rw [List.length_append]; simp only [List.length_cons, List.length_nil]; omega
      · show (stAt x l k).out.length ≤ _; omega
theorem ofP_no {x : Ras} {l : List Rc} (h : ¬ chk x.1 x.2.1 x.2.2.2 = 0) : ofP x l = ([], chk x.1 x.2.1 x.2.2.2) := by
  have ho : okR x = false := by
    cases ho : okR x with
    | false => rfl
    | true => exact absurd (show chk x.1 x.2.1 x.2.2.2 = 0 by unfold chk; rw [if_pos ho]) h
  unfold ofP chk
  rw [if_pos ho, if_neg (by show ¬ okR x = true; rw [ho]; exact Bool.false_ne_true)]
theorem ok_of {x : Ras} (h : chk x.1 x.2.1 x.2.2.2 = 0) : okR x = true := by rw [← chk_zero]; exact h
theorem ofP_bad {x : Ras} {l : List Rc} (h : okR x = true) (hl : ¬ chkL l = 0) : ofP x l = ([], chkL l) := by
  unfold ofP
  rw [if_neg (by rw [h]; exact Bool.noConfusion), if_neg hl]
theorem ofP_ok {x : Ras} {l : List Rc} (h : okR x = true) (hl : chkL l = 0) : ofP x l = ((stAt x l l.length).out, 0) := by
  unfold ofP
  rw [if_neg (by rw [h]; exact Bool.noConfusion), if_pos hl]
theorem stF_none {x : Ras} {w : Option (Int × List (List Int))} {o : List Fm} {k : Int} {r : Rc} (h : begunN x w k = none) : stF ⟨x, w, o⟩ k r = ⟨rasN x r, none, o⟩ := by
  unfold stF; rw [h]
theorem stF_go {x : Ras} {w : Option (Int × List (List Int))} {o : List Fm} {k a : Int} {r : Rc} {rows : List (List Int)} (h : begunN x w k = some (a, rows)) (hz : atZ (rasN x r) = false) : stF ⟨x, w, o⟩ k r = ⟨rasN x r, some (a, tookN x r rows), o⟩ := by
  unfold stF; rw [h]; simp only; rw [if_neg (by rw [hz]; exact Bool.false_ne_true)]
theorem stF_fin {x : Ras} {w : Option (Int × List (List Int))} {o : List Fm} {k a : Int} {r : Rc} {rows : List (List Int)} (h : begunN x w k = some (a, rows)) (hz : atZ (rasN x r) = true) : stF ⟨x, w, o⟩ k r = ⟨rasN x r, none, o ++ [⟨a, tookN x r rows, shortB (tookN x r rows)⟩]⟩ := by
  unfold stF; rw [h]; simp only; rw [if_pos hz]
theorem StepR_spec {Γ : Ctx} (hP : Γ.P = Tryd.prog) {L : Hp} {X : Ras} {r : Rc} {ad data : Int} {own pulse : Bool} (S : SH Γ) :
    SCall Γ 31 #[(.agg #[.int .i64 X.1, .int .i64 X.2.1, .bool X.2.2.1, .int .i64 X.2.2.2]), (.agg #[.int .u8 r.code, .int .u16 ad, .bool r.rd, .bool r.wr, .bool own, .int .u8 data, .int .u8 r.port, .bool pulse]), (.int .u8 r.md)] L (fun v L' => v = .agg #[.int .i64 (rasN X r).1, .int .i64 (rasN X r).2.1, .bool (rasN X r).2.2.1, .int .i64 (rasN X r).2.2.2] ∧ L' = L) := Step_spec hP S
theorem TakesR_spec {Γ : Ctx} (hP : Γ.P = Tryd.prog) {L : Hp} {X : Ras} {r : Rc} {ad data : Int} {own pulse : Bool} (S : SH Γ) :
    SCall Γ 30 #[(.agg #[.int .i64 X.1, .int .i64 X.2.1, .bool X.2.2.1, .int .i64 X.2.2.2]), (.agg #[.int .u8 r.code, .int .u16 ad, .bool r.rd, .bool r.wr, .bool own, .int .u8 data, .int .u8 r.port, .bool pulse])] L (fun v L' => v = .bool (takesN X r) ∧ L' = L) := Takes_spec hP S
theorem mayR_spec {Γ : Ctx} (hP : Γ.P = Tryd.prog) {L : Hp} {r : Rc} : SCall Γ 28 #[.agg #[.int .u8 r.code, .int .u16 r.ad, .int .u8 r.data, .bool r.rd, .bool r.wr, .int .u8 r.port, .bool r.q, .int .u8 r.md]] L (fun v L' => v = .bool (mayB r) ∧ L' = L) := may_spec (x := r) hP
set_option maxHeartbeats 1000000 in
set_option maxRecDepth 100000 in
theorem begun_spec {Γ : Ctx} (hP : Γ.P = Tryd.prog) {L : Hp} {k : Int} :
    SCall Γ 29 #[(.int .i64 k)] L (fun v L' => ∃ gp g, v = .pointer (some ⟨gp, 0, none⟩) ∧ L' = some (gp, .cells [.int .i64 k, .slice (some ⟨g, 0, none⟩) 128 128, .bool false].toArray 41 (0, 0)) :: some (g, .cells (List.replicate 128 (.slice none 0 0)).toArray 50 (0, 0)) :: L) := by
  refine SCall.enter (n := 7) (res1 2) (hP ▸ Tryd.func29) rfl rfl (by simp) (res1_ok rfl) ?_
  refine SX.seq_k fun K1 hK1 => ?_
  refine SX.region_d [some 2] rfl (fun ops hops => ?_)
  unfold Dsts at hops
  simp (maxSteps:=1000000)(dsimp:=false)(disch:=omega) only [go_sem, Φa, hP, hops]
  refine hK1 _ _ ?_
  try clear hK1 K1
  refine SX.seq_k fun K2 hK2 => ?_
  refine SX.region_d [some 3, some 4, some 5, some 6, some 2] rfl (fun ops hops => ?_)
  unfold Dsts at hops
  simp (maxSteps:=1000000)(dsimp:=false)(disch:=omega) only [go_sem, Φa, hP, hops]
  intro g1
  try with_reducible refine stI ?_
  try simp (maxSteps:=1000000)(dsimp:=false)(disch:=omega) only [go_sem, Φa, hP, hops]
  rw [zerosV_one]
  try with_reducible refine stI ?_
  try simp (maxSteps:=1000000)(dsimp:=false)(disch:=omega) only [go_sem, Φa, hP, hops]
  intro g2
  try with_reducible refine stI ?_
  try simp (maxSteps:=1000000)(dsimp:=false)(disch:=omega) only [go_sem, Φa, hP, hops]
  refine hK2 _ _ ?_
  try clear hK2 K2
  refine SX.ret ?_
  simp only [noGo_normal, noGo_ret, noGo_exit, andThen_normal, andThen_ret, andThen_exit, inBlk_normal, inBlk_ret, inBlk_exit, Nat.reduceEqDiff, if_true, if_false, ↓reduceIte, retQ_ret]
  try simp only [res0, res1, res2, res3, stK_e, go_sem, Φa, hP]
  exact ⟨_, _, Less.refl _, rfl, _, _, rfl, rfl⟩
set_option maxHeartbeats 1000000 in
set_option maxRecDepth 100000 in
theorem Of_spec {Γ : Ctx} (hP : Γ.P = Tryd.prog) {L : Hp} {x : Ras} {v : Value} {l : List Rc} (hl : SlC (Cell Γ L) v l) (hlm : l.length ≤ 9000000000000000000) (S : SH Γ) :
    SCall Γ 12 #[(.agg #[.int .i64 x.1, .int .i64 x.2.1, .bool x.2.2.1, .int .i64 x.2.2.2]), v] L (OfR x l L) := by
  obtain ⟨A, c, rfl, hc⟩ := Sl.shape hl
  obtain ⟨a1, e1, _, hA⟩ := Sl.at1 hl
  refine SCall.enter (n := 115) (res2 4 5) (hP ▸ Tryd.func12) rfl rfl (by simp) (res2_ok rfl) ?_
  refine SX.seq_k fun K1 hK1 => ?_
  refine SX.region_d [some 2, some 4, some 5] rfl (fun ops hops => ?_)
  unfold Dsts at hops
  simp (maxSteps:=1000000)(dsimp:=false)(disch:=omega) only [go_sem, Φa, hP, hops]
  intro bR
  try with_reducible refine stI ?_
  try simp (maxSteps:=1000000)(dsimp:=false)(disch:=omega) only [go_sem, Φa, hP, hops]
  refine hK1 _ _ ?_
  try clear hK1 K1
  refine SX.scope ?_
  refine SX.seq_k fun K2 hK2 => ?_
  refine SX.seq_k fun K3 hK3 => ?_
  refine SX.region_d [some 16, some 17, some 6] rfl (fun ops hops => ?_)
  unfold Dsts at hops
  simp (maxSteps:=1000000)(dsimp:=false)(disch:=omega) only [go_sem, Φa, hP, hops]
  refine ⟨_, Cell.at 0 rfl rfl, _, Cell.at 0 rfl rfl, _, Cell.at 0 rfl rfl, _, Cell.at 0 rfl rfl, ?_⟩
  try with_reducible refine stI ?_
  try simp (maxSteps:=1000000)(dsimp:=false)(disch:=omega) only [go_sem, Φa, hP, hops]
  refine SCall.mono (Check_spec hP S) ?_
  rintro v_ L_ ⟨hv_, hL_⟩
  rw [hv_, hL_]
  clear hv_ hL_ v_ L_
  try with_reducible refine stI ?_
  try simp (maxSteps:=1000000)(dsimp:=false)(disch:=omega) only [go_sem, Φa, hP, hops]
  refine hK3 _ _ ?_
  try clear hK3 K3
  refine SX.seq_k fun K4 hK4 => ?_
  refine SX.region_d [some 18, some 19] rfl (fun ops hops => ?_)
  unfold Dsts at hops
  simp (maxSteps:=1000000)(dsimp:=false)(disch:=omega) only [go_sem, Φa, hP, hops]
  repeat' ((first | refine And.intro (by omega) ?_ | fail); try (with_reducible refine stI ?_); try simp (maxSteps:=1000000)(dsimp:=false)(disch:=omega) only [go_sem, Φa, hP, hops])
  refine hK4 _ _ ?_
  try clear hK4 K4
  refine SX.cond_k fun X5 Y5 hX5 hY5 => ?_
  simp (maxSteps:=1000000)(dsimp:=false)(disch:=omega) only [go_sem, Φa, hP, condVC]
  refine ⟨fun hc19 => hX5 ?_, fun hc19 => hY5 ?_⟩
  · clear hX5 hY5 X5 Y5
    refine SX.seq_k fun K6 hK6 => ?_
    refine SX.region_d [some 20, some 4, some 5] rfl (fun ops hops => ?_)
    unfold Dsts at hops
    simp (maxSteps:=1000000)(dsimp:=false)(disch:=omega) only [go_sem, Φa, hP, hops]
    refine hK6 _ _ ?_
    try clear hK6 K6
    refine SX.ret ?_
    simp only [noGo_normal, noGo_ret, noGo_exit, andThen_normal, andThen_ret, andThen_exit, inBlk_normal, inBlk_ret, inBlk_exit, Nat.reduceEqDiff, if_true, if_false, ↓reduceIte, retQ_ret]
    try simp only [res0, res1, res2, res3, stK_e, go_sem, Φa, hP]
    refine ⟨_, _, (Less.drop _ _).trans (Less.none _), rfl, ?_⟩
    rw [← show (ofP x l).2 = chk x.1 x.2.1 x.2.2.2 by rw [ofP_no hc19]]
    exact OfR.none (by rw [ofP_no hc19])
  · clear hX5 hY5 X5 Y5
    refine SX.skip ?_
    try simp only [noGo_normal, noGo_ret, noGo_exit, andThen_normal, andThen_ret, andThen_exit, inBlk_normal, inBlk_ret, inBlk_exit, Nat.reduceEqDiff, if_true, if_false, ↓reduceIte]
    refine hK2 _ _ ?_
    try clear hK2 K2
    refine SX.seq_k fun K7 hK7 => ?_
    refine SX.seq_k fun K8 hK8 => ?_
    have hok : okR x = true := ok_of (by simpa using hc19)
    refine SX.region_d [some 21, some 22, some 23] rfl (fun ops hops => ?_)
    unfold Dsts at hops
    simp (maxSteps:=1000000)(dsimp:=false)(disch:=omega) only [go_sem, Φa, hP, hops]
    repeat' ((first | refine And.intro (by omega) ?_ | fail); try (with_reducible refine stI ?_); try simp (maxSteps:=1000000)(dsimp:=false)(disch:=omega) only [go_sem, Φa, hP, hops])
    refine hK8 _ _ ?_
    try clear hK8 K8
    refine SX.live [1, 2, 23] (fun T1 hT1 => ?_)
    simp only [forall_mem_cons', forall_mem_nil', go_sem, Φa, hP] at hT1
    obtain ⟨h1_1, h1_2, h1_23⟩ := hT1
    refine SX.cond_k fun X9 Y9 hX9 hY9 => ?_
    simp (maxSteps:=1000000)(dsimp:=false)(disch:=omega) only [go_sem, Φa, hP, h1_1, h1_2, h1_23, condVC]
    refine ⟨fun hc23 => hX9 ?_, fun hc23 => hY9 ?_⟩
    · clear hX9 hY9 X9 Y9
      refine SX.seq_k fun K10 hK10 => ?_
      refine SX.region_d [some 4, some 5] rfl (fun ops hops => ?_)
      unfold Dsts at hops
      simp (maxSteps:=1000000)(dsimp:=false)(disch:=omega) only [go_sem, Φa, hP, h1_1, h1_2, h1_23, hops]
      refine hK10 _ _ ?_
      try clear hK10 K10
      refine SX.ret ?_
      simp only [noGo_normal, noGo_ret, noGo_exit, andThen_normal, andThen_ret, andThen_exit, inBlk_normal, inBlk_ret, inBlk_exit, Nat.reduceEqDiff, if_true, if_false, ↓reduceIte, retQ_ret]
      try simp only [res0, res1, res2, res3, stK_e, go_sem, Φa, hP, h1_1, h1_2, h1_23]
      refine ⟨_, _, (Less.drop _ _).trans (Less.none _), rfl, ?_⟩
      have hb := ofP_bad (l := l) hok (by rw [chkL_long (by omega)]; decide)
      rw [chkL_long (by omega)] at hb
      rw [← show (ofP x l).2 = 2 by rw [hb]]
      exact OfR.none (by rw [hb])
    · clear hX9 hY9 X9 Y9
      refine SX.skip ?_
      try simp only [noGo_normal, noGo_ret, noGo_exit, andThen_normal, andThen_ret, andThen_exit, inBlk_normal, inBlk_ret, inBlk_exit, Nat.reduceEqDiff, if_true, if_false, ↓reduceIte]
      refine hK7 _ _ ?_
      try clear hK7 K7
      refine SX.seq_k fun K11 hK11 => ?_
      refine SX.seq_k fun K12 hK12 => ?_
      refine SX.region_d [some 24, some 25, some 26] rfl (fun ops hops => ?_)
      unfold Dsts at hops
      simp (maxSteps:=1000000)(dsimp:=false)(disch:=omega) only [go_sem, Φa, hP, h1_1, h1_2, h1_23, hops]
      repeat' ((first | refine And.intro (by omega) ?_ | fail); try (with_reducible refine stI ?_); try simp (maxSteps:=1000000)(dsimp:=false)(disch:=omega) only [go_sem, Φa, hP, h1_1, h1_2, h1_23, hops])
      refine hK12 _ _ ?_
      try clear hK12 K12
      refine SX.block ?_
      refine SX.live [1, 2, 24, 25, 26] (fun T2 hT2 => ?_)
      simp only [forall_mem_cons', forall_mem_nil', go_sem, Φa, hP, h1_1, h1_2, h1_23] at hT2
      obtain ⟨h2_1, h2_2, h2_24, h2_25, h2_26⟩ := hT2
      clear h1_1 h1_2 h1_23 T1
      refine SX.loop_k (fun (ss : (Nat)) T L' => (fun (k : Nat) => T 26 = .int .i64 (k : Int) ∧ T 1 = T2 1 ∧ T 2 = T2 2 ∧ T 24 = T2 24 ∧ T 25 = T2 25 ∧ L' = some (bR, .cells [.int .i64 x.1, .int .i64 x.2.1, .bool x.2.2.1, .int .i64 x.2.2.2].toArray 24 (0, 0)) :: L ∧ (k ≤ l.length ∧ ∀ j, j < k → mayB (l.getD j default) = true)) (ss)) (fun (ss : (Nat)) => (fun (k : Nat) => l.length - k) (ss)) 0 ?_ ?_
      · try dsimp only
        refine ⟨?_, ?_, ?_, ?_, ?_, ?_, ?_⟩
        · first | exact h2_26 | (rw [h2_26]; rfl) | (rw [h2_26]; simp; done)
        · rfl
        · rfl
        · rfl
        · rfl
        · rfl
        · exact ⟨Nat.zero_le _, fun j hj => absurd hj (Nat.not_lt_zero _)⟩
      · intro k T3 L3 hI K13 hK13
        try dsimp only at hI hK13
        simp only [h2_1, h2_2, h2_24, h2_25] at hI hK13
        obtain ⟨h3_26, h3_1, h3_2, h3_24, h3_25, hL3, ⟨hk, hin⟩⟩ := hI
        replace hL3 := hL3.symm
        subst hL3
        clear h2_1 h2_2 h2_24 h2_25 h2_26 T2
        refine SX.seq_k fun K14 hK14 => ?_
        refine SX.region_d [some 27] rfl (fun ops hops => ?_)
        unfold Dsts at hops
        simp (maxSteps:=1000000)(dsimp:=false)(disch:=omega) only [go_sem, Φa, hP, h3_26, h3_1, h3_2, h3_24, h3_25, hops]
        repeat' ((first | refine And.intro (by omega) ?_ | fail); try (with_reducible refine stI ?_); try simp (maxSteps:=1000000)(dsimp:=false)(disch:=omega) only [go_sem, Φa, hP, h3_26, h3_1, h3_2, h3_24, h3_25, hops])
        refine hK14 _ _ ?_
        try clear hK14 K14
        refine SX.seq_k fun K15 hK15 => ?_
        refine SX.cond_k fun X16 Y16 hX16 hY16 => ?_
        simp (maxSteps:=1000000)(dsimp:=false)(disch:=omega) only [go_sem, Φa, hP, h3_26, h3_1, h3_2, h3_24, h3_25, condVC]
        refine ⟨fun hc27 => hX16 ?_, fun hc27 => hY16 ?_⟩
        · clear hX16 hY16 X16 Y16
          refine SX.skip ?_
          try simp only [noGo_normal, noGo_ret, noGo_exit, andThen_normal, andThen_ret, andThen_exit, inBlk_normal, inBlk_ret, inBlk_exit, Nat.reduceEqDiff, if_true, if_false, ↓reduceIte]
          refine hK15 _ _ ?_
          try clear hK15 K15
          refine SX.seq_k fun K17 hK17 => ?_
          refine SX.block ?_
          refine SX.seq_k fun K18 hK18 => ?_
          have hkl : k < l.length := by omega
          have hck := hA k _ (getD_get (d := default) hkl)
          refine SX.region_d [some 28, some 29, some 8, none] rfl (fun ops hops => ?_)
          unfold Dsts at hops
          simp (maxSteps:=1000000)(dsimp:=false)(disch:=omega) only [go_sem, Φa, hP, h3_26, h3_1, h3_2, h3_24, h3_25, hops, ia_at e1]
          refine ⟨_, Cell.cons _ (hck 0 _ rfl), _, Cell.cons _ (hck 1 _ rfl), _, Cell.cons _ (hck 2 _ rfl), _, Cell.cons _ (hck 3 _ rfl), _, Cell.cons _ (hck 4 _ rfl), _, Cell.cons _ (hck 5 _ rfl), _, Cell.cons _ (hck 6 _ rfl), _, Cell.cons _ (hck 7 _ rfl), ?_⟩
          try with_reducible refine stI ?_
          try simp (maxSteps:=1000000)(dsimp:=false)(disch:=omega) only [go_sem, Φa, hP, h3_26, h3_1, h3_2, h3_24, h3_25, hops, ia_at e1]
          intro g8
          try with_reducible refine stI ?_
          try simp (maxSteps:=1000000)(dsimp:=false)(disch:=omega) only [go_sem, Φa, hP, h3_26, h3_1, h3_2, h3_24, h3_25, hops, ia_at e1]
          refine ⟨0, _, _, _, rfl, by decide, .inr (by decide), ?_⟩
          try with_reducible refine stI ?_
          try simp (maxSteps:=1000000)(dsimp:=false)(disch:=omega) only [go_sem, Φa, hP, h3_26, h3_1, h3_2, h3_24, h3_25, hops, ia_at e1]
          refine hK18 _ _ ?_
          try clear hK18 K18
          refine SX.seq_k fun K19 hK19 => ?_
          refine SX.region_d [some 30, some 31, some 32] rfl (fun ops hops => ?_)
          unfold Dsts at hops
          simp (maxSteps:=1000000)(dsimp:=false)(disch:=omega) only [go_sem, Φa, hP, h3_26, h3_1, h3_2, h3_24, h3_25, hops]
          refine ⟨_, Cell.at 0 rfl rfl, _, Cell.at 0 rfl rfl, _, Cell.at 0 rfl rfl, _, Cell.at 0 rfl rfl, _, Cell.at 0 rfl rfl, _, Cell.at 0 rfl rfl, _, Cell.at 0 rfl rfl, _, Cell.at 0 rfl rfl, ?_⟩
          try with_reducible refine stI ?_
          try simp (maxSteps:=1000000)(dsimp:=false)(disch:=omega) only [go_sem, Φa, hP, h3_26, h3_1, h3_2, h3_24, h3_25, hops]
          refine SCall.mono (mayR_spec hP (r := l.getD k default)) ?_
          rintro v_ L_ ⟨hv_, hL_⟩
          rw [hv_, hL_]
          clear hv_ hL_ v_ L_
          try with_reducible refine stI ?_
          try simp (maxSteps:=1000000)(dsimp:=false)(disch:=omega) only [go_sem, Φa, hP, h3_26, h3_1, h3_2, h3_24, h3_25, hops]
          refine hK19 _ _ ?_
          try clear hK19 K19
          refine SX.cond_k fun X20 Y20 hX20 hY20 => ?_
          simp (maxSteps:=1000000)(dsimp:=false)(disch:=omega) only [go_sem, Φa, hP, h3_26, h3_1, h3_2, h3_24, h3_25, condVC]
          refine ⟨fun hc32 => hX20 ?_, fun hc32 => hY20 ?_⟩
          · clear hX20 hY20 X20 Y20
            refine SX.seq_k fun K21 hK21 => ?_
            refine SX.region_d [some 4, some 5] rfl (fun ops hops => ?_)
            unfold Dsts at hops
            simp (maxSteps:=1000000)(dsimp:=false)(disch:=omega) only [go_sem, Φa, hP, h3_26, h3_1, h3_2, h3_24, h3_25, hops]
            refine hK21 _ _ ?_
            try clear hK21 K21
            refine SX.ret ?_
            simp only [noGo_normal, noGo_ret, noGo_exit, andThen_normal, andThen_ret, andThen_exit, inBlk_normal, inBlk_ret, inBlk_exit, Nat.reduceEqDiff, if_true, if_false, ↓reduceIte, retQ_ret]
            try simp only [res0, res1, res2, res3, stK_e, go_sem, Φa, hP, h3_26, h3_1, h3_2, h3_24, h3_25]
            refine ⟨_, _, (Less.drops (Less.drop _ _)).trans (Less.none _), rfl, ?_⟩
            have hb := ofP_bad (l := l) hok (by rw [chkL_bad (by omega) hkl (by simpa using hc32)]; decide)
            rw [chkL_bad (by omega) hkl (by simpa using hc32)] at hb
            rw [← show (ofP x l).2 = 1 by rw [hb]]
            exact OfR.none (by rw [hb])
          · clear hX20 hY20 X20 Y20
            refine SX.skip ?_
            try simp only [noGo_normal, noGo_ret, noGo_exit, andThen_normal, andThen_ret, andThen_exit, inBlk_normal, inBlk_ret, inBlk_exit, Nat.reduceEqDiff, if_true, if_false, ↓reduceIte]
            refine hK17 _ _ ?_
            try clear hK17 K17
            refine SX.region_d [some 33, some 26] rfl (fun ops hops => ?_)
            unfold Dsts at hops
            simp (maxSteps:=1000000)(dsimp:=false)(disch:=omega) only [go_sem, Φa, hP, h3_26, h3_1, h3_2, h3_24, h3_25, hops]
            repeat' ((first | refine And.intro (by omega) ?_ | fail); try (with_reducible refine stI ?_); try simp (maxSteps:=1000000)(dsimp:=false)(disch:=omega) only [go_sem, Φa, hP, h3_26, h3_1, h3_2, h3_24, h3_25, hops])
            refine hK13 (k + 1) _ (some (bR, .cells [.int .i64 x.1, .int .i64 x.2.1, .bool x.2.2.1, .int .i64 x.2.2.2].toArray 24 (0, 0)) :: L) _ (by first | exact Less.refl _ | exact Less.drop _ _ | exact Less.drops (Less.drop _ _) | exact Less.drops (Less.drops (Less.drop _ _)) | exact Less.drops (Less.drops (Less.drops (Less.drop _ _))) | exact Less.drops (Less.drops (Less.drops (Less.drops (Less.drop _ _))))) ?_ ?_
            · try dsimp only
              refine ⟨?_, ?_, ?_, ?_, ?_, ?_, ?_⟩
              · simp (maxSteps:=1000000)(dsimp:=false)(disch:=omega) only [go_sem, Φa, hP, h3_26, h3_1, h3_2, h3_24, h3_25]
                first | done | rfl | skip
              · simp (maxSteps:=1000000)(dsimp:=false)(disch:=omega) only [go_sem, Φa, hP, h3_26, h3_1, h3_2, h3_24, h3_25]
              · simp (maxSteps:=1000000)(dsimp:=false)(disch:=omega) only [go_sem, Φa, hP, h3_26, h3_1, h3_2, h3_24, h3_25]
              · simp (maxSteps:=1000000)(dsimp:=false)(disch:=omega) only [go_sem, Φa, hP, h3_26, h3_1, h3_2, h3_24, h3_25]
              · simp (maxSteps:=1000000)(dsimp:=false)(disch:=omega) only [go_sem, Φa, hP, h3_26, h3_1, h3_2, h3_24, h3_25]
              · rfl
              · refine ⟨by omega, fun j hj => ?_⟩
                rcases Nat.lt_succ_iff_lt_or_eq.1 hj with h | rfl
                · exact hin j h
                · simpa using hc32
            · (try dsimp only); omega
        · clear hX16 hY16 X16 Y16
          refine SX.exit ?_
          try simp only [noGo_normal, noGo_ret, noGo_exit, andThen_normal, andThen_ret, andThen_exit, inBlk_normal, inBlk_ret, inBlk_exit, Nat.reduceEqDiff, if_true, if_false, ↓reduceIte]
          refine hK11 _ _ ?_
          try clear hK11 K11
          refine SX.seq_k fun K22 hK22 => ?_
          have hgood : chkL l = 0 := chkL_good (by omega) (fun j hj => hin j (by omega))
          obtain ⟨hll, hmay⟩ := chkL_zero hgood
          clear hin
          refine SX.less less_ins ?_
          refine SX.region_d [some 9] rfl (fun ops hops => ?_)
          unfold Dsts at hops
          simp (maxSteps:=1000000)(dsimp:=false)(disch:=omega) only [go_sem, Φa, hP, h3_26, h3_1, h3_2, h3_24, h3_25, hops]
          refine hK22 _ _ ?_
          try clear hK22 K22
          refine SX.seq_k fun K23 hK23 => ?_
          refine SX.region_d [some 10] rfl (fun ops hops => ?_)
          unfold Dsts at hops
          simp (maxSteps:=1000000)(dsimp:=false)(disch:=omega) only [go_sem, Φa, hP, h3_26, h3_1, h3_2, h3_24, h3_25, hops]
          refine hK23 _ _ ?_
          try clear hK23 K23
          refine SX.seq_k fun K24 hK24 => ?_
          refine SX.label ?_
          try simp only [noGo_normal, noGo_ret, noGo_exit, andThen_normal, andThen_ret, andThen_exit, inBlk_normal, inBlk_ret, inBlk_exit, Nat.reduceEqDiff, if_true, if_false, ↓reduceIte]
          refine hK24 _ _ ?_
          try clear hK24 K24
          refine SX.seq_k fun K25 hK25 => ?_
          refine SX.seq_k fun K26 hK26 => ?_
          refine SX.region_d [some 34, some 35, some 36] rfl (fun ops hops => ?_)
          unfold Dsts at hops
          simp (maxSteps:=1000000)(dsimp:=false)(disch:=omega) only [go_sem, Φa, hP, h3_26, h3_1, h3_2, h3_24, h3_25, hops]
          repeat' ((first | refine And.intro (by omega) ?_ | fail); try (with_reducible refine stI ?_); try simp (maxSteps:=1000000)(dsimp:=false)(disch:=omega) only [go_sem, Φa, hP, h3_26, h3_1, h3_2, h3_24, h3_25, hops])
          refine hK26 _ _ ?_
          try clear hK26 K26
          refine SX.block ?_
          refine SX.live [2, 9, 10, 34, 35, 36] (fun T4 hT4 => ?_)
          simp only [forall_mem_cons', forall_mem_nil', go_sem, Φa, hP, h3_26, h3_1, h3_2, h3_24, h3_25] at hT4
          obtain ⟨h4_2, h4_9, h4_10, h4_34, h4_35, h4_36⟩ := hT4
          clear h3_26 h3_1 h3_2 h3_24 h3_25 T3
          refine SX.loop_k (fun (ss : (Nat) × (Ras) × (Nw) × (Value) × (Slot) × (List Ff)) T L' => (fun (k : Nat) (X : Ras) (nw : Nw) (vo : Value) (so : Slot) (fs : List Ff) => T 9 = vo ∧ T 10 = nowP nw ∧ T 36 = .int .i64 (k : Int) ∧ T 2 = T4 2 ∧ T 34 = T4 34 ∧ T 35 = T4 35 ∧ L' = some (bR, .cells [.int .i64 X.1, .int .i64 X.2.1, .bool X.2.2.1, .int .i64 X.2.2.2].toArray 24 (0, 0)) :: so :: (nowH nw ++ (segs fs ++ L)) ∧ (k ≤ l.length ∧ RowF vo fs so ∧ FsOk fs ∧ NwOk nw ∧ stAt x l k = ⟨X, nowS nw, fs.map (·.1)⟩)) (ss.1) (ss.2.1) (ss.2.2.1) (ss.2.2.2.1) (ss.2.2.2.2.1) (ss.2.2.2.2.2)) (fun (ss : (Nat) × (Ras) × (Nw) × (Value) × (Slot) × (List Ff)) => (fun (k : Nat) (X : Ras) (nw : Nw) (vo : Value) (so : Slot) (fs : List Ff) => l.length - k) (ss.1) (ss.2.1) (ss.2.2.1) (ss.2.2.2.1) (ss.2.2.2.2.1) (ss.2.2.2.2.2)) (0, x, none, .slice none 0 0, none, []) ?_ ?_
          · try dsimp only
            refine ⟨?_, ?_, ?_, ?_, ?_, ?_, ?_, ?_⟩
            · first | exact h4_9 | (rw [h4_9]; rfl) | (rw [h4_9]; simp; done)
            · first | exact h4_10 | (rw [h4_10]; rfl) | (rw [h4_10]; simp; done)
            · first | exact h4_36 | (rw [h4_36]; rfl) | (rw [h4_36]; simp; done)
            · rfl
            · rfl
            · rfl
            · rfl
            · exact ⟨Nat.zero_le _, RowL.nil _ _ _, FsOk.nil, fun q hq => (by cases hq), rfl⟩
          · intro ss T5 L5 hI K27 hK27
            obtain ⟨k, X, nw, vo, so, fs⟩ := ss
            try dsimp only at hI hK27
            simp only [h4_2, h4_34, h4_35] at hI hK27
            obtain ⟨h5_9, h5_10, h5_36, h5_2, h5_34, h5_35, hL5, ⟨hk, hrow, hfs, hnw, hst⟩⟩ := hI
            replace hL5 := hL5.symm
            subst hL5
            clear h4_2 h4_9 h4_10 h4_34 h4_35 h4_36 T4
            refine SX.seq_k fun K28 hK28 => ?_
            refine SX.region_d [some 37] rfl (fun ops hops => ?_)
            unfold Dsts at hops
            simp (maxSteps:=1000000)(dsimp:=false)(disch:=omega) only [go_sem, Φa, hP, h5_9, h5_10, h5_36, h5_2, h5_34, h5_35, hops]
            repeat' ((first | refine And.intro (by omega) ?_ | fail); try (with_reducible refine stI ?_); try simp (maxSteps:=1000000)(dsimp:=false)(disch:=omega) only [go_sem, Φa, hP, h5_9, h5_10, h5_36, h5_2, h5_34, h5_35, hops])
            refine hK28 _ _ ?_
            try clear hK28 K28
            refine SX.seq_k fun K29 hK29 => ?_
            refine SX.cond_k fun X30 Y30 hX30 hY30 => ?_
            simp (maxSteps:=1000000)(dsimp:=false)(disch:=omega) only [go_sem, Φa, hP, h5_9, h5_10, h5_36, h5_2, h5_34, h5_35, condVC]
            refine ⟨fun hc37 => hX30 ?_, fun hc37 => hY30 ?_⟩
            · clear hX30 hY30 X30 Y30
              refine SX.skip ?_
              try simp only [noGo_normal, noGo_ret, noGo_exit, andThen_normal, andThen_ret, andThen_exit, inBlk_normal, inBlk_ret, inBlk_exit, Nat.reduceEqDiff, if_true, if_false, ↓reduceIte]
              refine hK29 _ _ ?_
              try clear hK29 K29
              refine SX.seq_k fun K31 hK31 => ?_
              refine SX.block ?_
              refine SX.seq_k fun K32 hK32 => ?_
              have hkl : k < l.length := by omega
              have hck := hA k _ (getD_get (d := default) hkl)
              have hstep : stAt x l (k + 1) = stF ⟨X, nowS nw, fs.map (·.1)⟩ k (l.getD k default) := by rw [stAt, hst]
              have hXo : okR X = true := by have := stAt_ok hok hmay k hk; rw [hst] at this; exact this
              have hX := of_okB hXo
              have hcn := (stAt_cnt x l k).1
              rw [hst] at hcn
              have hfl : fs.length ≤ k := by have := stAt_out x l k; rw [hst] at this; simpa using this
              generalize l.getD k default = r at hck hstep
              refine SX.region_d [some 38, some 39, some 40, some 12, some 11, none] rfl (fun ops hops => ?_)
              unfold Dsts at hops
              simp (maxSteps:=1000000)(dsimp:=false)(disch:=omega) only [go_sem, Φa, hP, h5_9, h5_10, h5_36, h5_2, h5_34, h5_35, hops, ia_at e1]
              refine ⟨_, Cell.cons _ (Cell.cons _ (Cell.app _ (Cell.app _ (hck 0 _ rfl)))), _, Cell.cons _ (Cell.cons _ (Cell.app _ (Cell.app _ (hck 1 _ rfl)))), _, Cell.cons _ (Cell.cons _ (Cell.app _ (Cell.app _ (hck 2 _ rfl)))), _, Cell.cons _ (Cell.cons _ (Cell.app _ (Cell.app _ (hck 3 _ rfl)))), _, Cell.cons _ (Cell.cons _ (Cell.app _ (Cell.app _ (hck 4 _ rfl)))), _, Cell.cons _ (Cell.cons _ (Cell.app _ (Cell.app _ (hck 5 _ rfl)))), _, Cell.cons _ (Cell.cons _ (Cell.app _ (Cell.app _ (hck 6 _ rfl)))), _, Cell.cons _ (Cell.cons _ (Cell.app _ (Cell.app _ (hck 7 _ rfl)))), ?_⟩
              try with_reducible refine stI ?_
              try simp (maxSteps:=1000000)(dsimp:=false)(disch:=omega) only [go_sem, Φa, hP, h5_9, h5_10, h5_36, h5_2, h5_34, h5_35, hops, ia_at e1]
              intro g16
              try with_reducible refine stI ?_
              try simp (maxSteps:=1000000)(dsimp:=false)(disch:=omega) only [go_sem, Φa, hP, h5_9, h5_10, h5_36, h5_2, h5_34, h5_35, hops, ia_at e1]
              refine ⟨0, _, _, _, rfl, by decide, .inr (by decide), ?_⟩
              try with_reducible refine stI ?_
              try simp (maxSteps:=1000000)(dsimp:=false)(disch:=omega) only [go_sem, Φa, hP, h5_9, h5_10, h5_36, h5_2, h5_34, h5_35, hops, ia_at e1]
              refine hK32 _ _ ?_
              try clear hK32 K32
              refine SX.live [2, 9, 10, 11, 12, 34, 35, 36] (fun T6 hT6 => ?_)
              simp only [forall_mem_cons', forall_mem_nil', go_sem, Φa, hP, h5_9, h5_10, h5_36, h5_2, h5_34, h5_35] at hT6
              obtain ⟨h6_2, h6_9, h6_10, h6_11, h6_12, h6_34, h6_35, h6_36⟩ := hT6
              clear h5_9 h5_10 h5_36 h5_2 h5_34 h5_35 T5
              refine SX.join (fun (ss : (Nw)) T L' => (fun (nw1 : Nw) => T 10 = nowP nw1 ∧ T 2 = T6 2 ∧ T 9 = T6 9 ∧ T 12 = T6 12 ∧ T 34 = T6 34 ∧ T 35 = T6 35 ∧ T 36 = T6 36 ∧ L' = some (g16, .cells [.int .u8 r.code, .int .u16 r.ad, .int .u8 r.data, .bool r.rd, .bool r.wr, .int .u8 r.port, .bool r.q, .int .u8 r.md].toArray 29 (0, 0)) :: some (bR, .cells [.int .i64 X.1, .int .i64 X.2.1, .bool X.2.2.1, .int .i64 X.2.2.2].toArray 24 (0, 0)) :: so :: (nowH nw1 ++ (segs fs ++ L)) ∧ (NwOk nw1 ∧ nowS nw1 = begunN X (nowS nw) k)) (ss)) (fun K33 hK33 => ?_) ?_
              · simp only [h6_2, h6_9, h6_12, h6_34, h6_35, h6_36] at hK33
                refine SX.seq_k fun K34 hK34 => ?_
                refine SX.region_xd [some 41, some 42, some 43, some 44, some 45, some 46, some 47, some 48] rfl (fun ops hops => ?_)
                unfold Dsts at hops
                refine RX.live [2, 9, 10, 11, 12, 34, 35, 36] (fun T7 hT7 => ?_)
                simp only [forall_mem_cons', forall_mem_nil', go_sem, Φa, hP, h6_2, h6_9, h6_10, h6_11, h6_12, h6_34, h6_35, h6_36] at hT7
                obtain ⟨h7_2, h7_9, h7_10, h7_11, h7_12, h7_34, h7_35, h7_36⟩ := hT7
                clear h6_2 h6_9 h6_10 h6_11 h6_12 h6_34 h6_35 h6_36 T6
                refine RX.join 8 (fun (ss : Unit) T L' => T 48 = .bool (atZ X) ∧ T 2 = T7 2 ∧ T 9 = T7 9 ∧ T 10 = T7 10 ∧ T 11 = T7 11 ∧ T 12 = T7 12 ∧ T 34 = T7 34 ∧ T 35 = T7 35 ∧ T 36 = T7 36 ∧ L' = some (g16, .cells [.int .u8 r.code, .int .u16 r.ad, .int .u8 r.data, .bool r.rd, .bool r.wr, .int .u8 r.port, .bool r.q, .int .u8 r.md].toArray 29 (0, 0)) :: some (bR, .cells [.int .i64 X.1, .int .i64 X.2.1, .bool X.2.2.1, .int .i64 X.2.2.2].toArray 24 (0, 0)) :: so :: (nowH nw ++ (segs fs ++ L)) ∧ (True)) (fun K35 hK35 => ?_) ?_
                · simp only [h7_2, h7_9, h7_10, h7_11, h7_12, h7_34, h7_35, h7_36] at hK35
                  simp (maxSteps:=1000000)(dsimp:=false)(disch:=omega) only [go_sem, Φa, hP, h7_2, h7_9, h7_10, h7_11, h7_12, h7_34, h7_35, h7_36, hops]
                  repeat' (first | refine iteB (fun hg => ?_) (fun hg => ?_) | refine iteI (fun hg => ?_) (fun hg => ?_) | ((first | refine And.intro (by omega) ?_ | refine ⟨_, Cell.at 0 rfl rfl, ?_⟩ | refine ⟨_, Cell.at 1 rfl rfl, ?_⟩ | refine ⟨_, Cell.at 2 rfl rfl, ?_⟩ | fail); try (with_reducible refine stI ?_); try simp (maxSteps:=1000000)(dsimp:=false)(disch:=omega) only [go_sem, Φa, hP, h7_2, h7_9, h7_10, h7_11, h7_12, h7_34, h7_35, h7_36, hops]) | fail)
                  all_goals
                    refine hK35 () _ (some (g16, .cells [.int .u8 r.code, .int .u16 r.ad, .int .u8 r.data, .bool r.rd, .bool r.wr, .int .u8 r.port, .bool r.q, .int .u8 r.md].toArray 29 (0, 0)) :: some (bR, .cells [.int .i64 X.1, .int .i64 X.2.1, .bool X.2.2.1, .int .i64 X.2.2.2].toArray 24 (0, 0)) :: so :: (nowH nw ++ (segs fs ++ L))) _ (by first | exact Less.refl _ | exact Less.drop _ _ | exact Less.drops (Less.drop _ _) | exact Less.drops (Less.drops (Less.drop _ _)) | exact Less.drops (Less.drops (Less.drops (Less.drop _ _))) | exact Less.drops (Less.drops (Less.drops (Less.drops (Less.drop _ _))))) ?_
                    try dsimp only
                    refine ⟨?_, ?_, ?_, ?_, ?_, ?_, ?_, ?_, ?_, ?_, ?_⟩
                    · simp (maxSteps:=1000000)(dsimp:=false)(disch:=omega) only [go_sem, Φa, hP, h7_2, h7_9, h7_10, h7_11, h7_12, h7_34, h7_35, h7_36]
                      first | done | rfl | (refine congrArg Value.bool ?_; unfold atZ; simp_all; done)
                    · simp (maxSteps:=1000000)(dsimp:=false)(disch:=omega) only [go_sem, Φa, hP, h7_2, h7_9, h7_10, h7_11, h7_12, h7_34, h7_35, h7_36]
                    · simp (maxSteps:=1000000)(dsimp:=false)(disch:=omega) only [go_sem, Φa, hP, h7_2, h7_9, h7_10, h7_11, h7_12, h7_34, h7_35, h7_36]
                    · simp (maxSteps:=1000000)(dsimp:=false)(disch:=omega) only [go_sem, Φa, hP, h7_2, h7_9, h7_10, h7_11, h7_12, h7_34, h7_35, h7_36]
                    · simp (maxSteps:=1000000)(dsimp:=false)(disch:=omega) only [go_sem, Φa, hP, h7_2, h7_9, h7_10, h7_11, h7_12, h7_34, h7_35, h7_36]
                    · simp (maxSteps:=1000000)(dsimp:=false)(disch:=omega) only [go_sem, Φa, hP, h7_2, h7_9, h7_10, h7_11, h7_12, h7_34, h7_35, h7_36]
                    · simp (maxSteps:=1000000)(dsimp:=false)(disch:=omega) only [go_sem, Φa, hP, h7_2, h7_9, h7_10, h7_11, h7_12, h7_34, h7_35, h7_36]
                    · simp (maxSteps:=1000000)(dsimp:=false)(disch:=omega) only [go_sem, Φa, hP, h7_2, h7_9, h7_10, h7_11, h7_12, h7_34, h7_35, h7_36]
                    · simp (maxSteps:=1000000)(dsimp:=false)(disch:=omega) only [go_sem, Φa, hP, h7_2, h7_9, h7_10, h7_11, h7_12, h7_34, h7_35, h7_36]
                    · rfl
                    · trivial
                · intro ss T8 L8 hI
                  simp only [h7_2, h7_9, h7_10, h7_11, h7_12, h7_34, h7_35, h7_36] at hI 
                  obtain ⟨h8_48, h8_2, h8_9, h8_10, h8_11, h8_12, h8_34, h8_35, h8_36, hL8, hinv⟩ := hI
                  replace hL8 := hL8.symm
                  subst hL8
                  clear h7_2 h7_9 h7_10 h7_11 h7_12 h7_34 h7_35 h7_36 T7
                  refine RX.done ?_
                  simp (maxSteps:=1000000)(dsimp:=false)(disch:=omega) only [go_sem, Φa, hP, h8_48, h8_2, h8_9, h8_10, h8_11, h8_12, h8_34, h8_35, h8_36, hops]
                  refine hK34 _ _ ?_
                  try clear hK34 K34
                  refine SX.cond_k fun X36 Y36 hX36 hY36 => ?_
                  simp (maxSteps:=1000000)(dsimp:=false)(disch:=omega) only [go_sem, Φa, hP, h8_48, h8_2, h8_9, h8_10, h8_11, h8_12, h8_34, h8_35, h8_36, condVC]
                  refine ⟨fun hc48 => hX36 ?_, fun hc48 => hY36 ?_⟩
                  · clear hX36 hY36 X36 Y36
                    refine SX.region_d [some 49, some 50, some 10] rfl (fun ops hops => ?_)
                    unfold Dsts at hops
                    simp (maxSteps:=1000000)(dsimp:=false)(disch:=omega) only [go_sem, Φa, hP, h8_48, h8_2, h8_9, h8_10, h8_11, h8_12, h8_34, h8_35, h8_36, hops]
                    refine SCall.mono (begun_spec hP) ?_
                    rintro v_ L_ ⟨gp, g, rfl, rfl⟩
                    try with_reducible refine stI ?_
                    try simp (maxSteps:=1000000)(dsimp:=false)(disch:=omega) only [go_sem, Φa, hP, h8_48, h8_2, h8_9, h8_10, h8_11, h8_12, h8_34, h8_35, h8_36, hops]
                    refine hK33 (some (gp, ((⟨(k : Int), List.replicate 128 [], false⟩ : Fm), d0 g))) _ (some (g16, .cells [.int .u8 r.code, .int .u16 r.ad, .int .u8 r.data, .bool r.rd, .bool r.wr, .int .u8 r.port, .bool r.q, .int .u8 r.md].toArray 29 (0, 0)) :: some (bR, .cells [.int .i64 X.1, .int .i64 X.2.1, .bool X.2.2.1, .int .i64 X.2.2.2].toArray 24 (0, 0)) :: so :: (nowH ((some (gp, ((⟨(k : Int), List.replicate 128 [], false⟩ : Fm), d0 g)))) ++ (segs fs ++ L))) _ (by exact less_begun) ?_
                    try dsimp only
                    refine ⟨?_, ?_, ?_, ?_, ?_, ?_, ?_, ?_, ?_⟩
                    · simp (maxSteps:=1000000)(dsimp:=false)(disch:=omega) only [go_sem, Φa, hP, h8_48, h8_2, h8_9, h8_10, h8_11, h8_12, h8_34, h8_35, h8_36]
                      first | done | rfl | skip
                    · simp (maxSteps:=1000000)(dsimp:=false)(disch:=omega) only [go_sem, Φa, hP, h8_48, h8_2, h8_9, h8_10, h8_11, h8_12, h8_34, h8_35, h8_36]
                    · simp (maxSteps:=1000000)(dsimp:=false)(disch:=omega) only [go_sem, Φa, hP, h8_48, h8_2, h8_9, h8_10, h8_11, h8_12, h8_34, h8_35, h8_36]
                    · simp (maxSteps:=1000000)(dsimp:=false)(disch:=omega) only [go_sem, Φa, hP, h8_48, h8_2, h8_9, h8_10, h8_11, h8_12, h8_34, h8_35, h8_36]
                    · simp (maxSteps:=1000000)(dsimp:=false)(disch:=omega) only [go_sem, Φa, hP, h8_48, h8_2, h8_9, h8_10, h8_11, h8_12, h8_34, h8_35, h8_36]
                    · simp (maxSteps:=1000000)(dsimp:=false)(disch:=omega) only [go_sem, Φa, hP, h8_48, h8_2, h8_9, h8_10, h8_11, h8_12, h8_34, h8_35, h8_36]
                    · simp (maxSteps:=1000000)(dsimp:=false)(disch:=omega) only [go_sem, Φa, hP, h8_48, h8_2, h8_9, h8_10, h8_11, h8_12, h8_34, h8_35, h8_36]
                    · rfl
                    · refine ⟨fun q hq => ?_, ?_⟩
                      · cases hq; exact ⟨FdOk.start g, rfl⟩
                      · rw [begunN, if_pos hc48]; rfl
                  · clear hX36 hY36 X36 Y36
                    refine SX.skip ?_
                    try simp only [noGo_normal, noGo_ret, noGo_exit, andThen_normal, andThen_ret, andThen_exit, inBlk_normal, inBlk_ret, inBlk_exit, Nat.reduceEqDiff, if_true, if_false, ↓reduceIte]
                    refine hK33 nw _ (some (g16, .cells [.int .u8 r.code, .int .u16 r.ad, .int .u8 r.data, .bool r.rd, .bool r.wr, .int .u8 r.port, .bool r.q, .int .u8 r.md].toArray 29 (0, 0)) :: some (bR, .cells [.int .i64 X.1, .int .i64 X.2.1, .bool X.2.2.1, .int .i64 X.2.2.2].toArray 24 (0, 0)) :: so :: (nowH nw ++ (segs fs ++ L))) _ (by exact Less.refl _) ?_
                    try dsimp only
                    refine ⟨?_, ?_, ?_, ?_, ?_, ?_, ?_, ?_, ?_⟩
                    · simp (maxSteps:=1000000)(dsimp:=false)(disch:=omega) only [go_sem, Φa, hP, h8_48, h8_2, h8_9, h8_10, h8_11, h8_12, h8_34, h8_35, h8_36]
                      first | done | rfl | skip
                    · simp (maxSteps:=1000000)(dsimp:=false)(disch:=omega) only [go_sem, Φa, hP, h8_48, h8_2, h8_9, h8_10, h8_11, h8_12, h8_34, h8_35, h8_36]
                    · simp (maxSteps:=1000000)(dsimp:=false)(disch:=omega) only [go_sem, Φa, hP, h8_48, h8_2, h8_9, h8_10, h8_11, h8_12, h8_34, h8_35, h8_36]
                    · simp (maxSteps:=1000000)(dsimp:=false)(disch:=omega) only [go_sem, Φa, hP, h8_48, h8_2, h8_9, h8_10, h8_11, h8_12, h8_34, h8_35, h8_36]
                    · simp (maxSteps:=1000000)(dsimp:=false)(disch:=omega) only [go_sem, Φa, hP, h8_48, h8_2, h8_9, h8_10, h8_11, h8_12, h8_34, h8_35, h8_36]
                    · simp (maxSteps:=1000000)(dsimp:=false)(disch:=omega) only [go_sem, Φa, hP, h8_48, h8_2, h8_9, h8_10, h8_11, h8_12, h8_34, h8_35, h8_36]
                    · simp (maxSteps:=1000000)(dsimp:=false)(disch:=omega) only [go_sem, Φa, hP, h8_48, h8_2, h8_9, h8_10, h8_11, h8_12, h8_34, h8_35, h8_36]
                    · rfl
                    · exact ⟨hnw, by rw [begunN, if_neg (by rw [hc48]; exact Bool.false_ne_true)]⟩
              · intro nw1 T9 L9 hI
                try dsimp only at hI 
                simp only [h6_2, h6_9, h6_12, h6_34, h6_35, h6_36] at hI 
                obtain ⟨h9_10, h9_2, h9_9, h9_12, h9_34, h9_35, h9_36, hL9, ⟨hnk1, hns1⟩⟩ := hI
                replace hL9 := hL9.symm
                subst hL9
                clear h6_2 h6_9 h6_10 h6_11 h6_12 h6_34 h6_35 h6_36 T6
                refine SX.seq_k fun K37 hK37 => ?_
                refine SX.region_d [some 51, some 52, some 53, some 54, some 55, some 56, some 57, some 58, some 59, some 13, none] rfl (fun ops hops => ?_)
                unfold Dsts at hops
                simp (maxSteps:=1000000)(dsimp:=false)(disch:=omega) only [go_sem, Φa, hP, h9_10, h9_2, h9_9, h9_12, h9_34, h9_35, h9_36, hops]
                refine ⟨_, Cell.at 0 rfl rfl, ?_⟩
                try with_reducible refine stI ?_
                try simp (maxSteps:=1000000)(dsimp:=false)(disch:=omega) only [go_sem, Φa, hP, h9_10, h9_2, h9_9, h9_12, h9_34, h9_35, h9_36, hops]
                refine ⟨_, Cell.at 0 rfl rfl, ?_⟩
                try with_reducible refine stI ?_
                try simp (maxSteps:=1000000)(dsimp:=false)(disch:=omega) only [go_sem, Φa, hP, h9_10, h9_2, h9_9, h9_12, h9_34, h9_35, h9_36, hops]
                refine ⟨_, Cell.at 0 rfl rfl, ?_⟩
                try with_reducible refine stI ?_
                try simp (maxSteps:=1000000)(dsimp:=false)(disch:=omega) only [go_sem, Φa, hP, h9_10, h9_2, h9_9, h9_12, h9_34, h9_35, h9_36, hops]
                refine ⟨_, Cell.at 0 rfl rfl, ?_⟩
                try with_reducible refine stI ?_
                try simp (maxSteps:=1000000)(dsimp:=false)(disch:=omega) only [go_sem, Φa, hP, h9_10, h9_2, h9_9, h9_12, h9_34, h9_35, h9_36, hops]
                intro g19
                try with_reducible refine stI ?_
                try simp (maxSteps:=1000000)(dsimp:=false)(disch:=omega) only [go_sem, Φa, hP, h9_10, h9_2, h9_9, h9_12, h9_34, h9_35, h9_36, hops]
                refine ⟨0, _, _, _, rfl, by decide, .inr (by decide), ?_⟩
                try with_reducible refine stI ?_
                try simp (maxSteps:=1000000)(dsimp:=false)(disch:=omega) only [go_sem, Φa, hP, h9_10, h9_2, h9_9, h9_12, h9_34, h9_35, h9_36, hops]
                refine hK37 _ _ ?_
                try clear hK37 K37
                refine SX.live [2, 9, 10, 12, 13, 34, 35, 36] (fun T10 hT10 => ?_)
                simp only [forall_mem_cons', forall_mem_nil', go_sem, Φa, hP, h9_10, h9_2, h9_9, h9_12, h9_34, h9_35, h9_36] at hT10
                obtain ⟨h10_2, h10_9, h10_10, h10_12, h10_13, h10_34, h10_35, h10_36⟩ := hT10
                clear h9_10 h9_2 h9_9 h9_12 h9_34 h9_35 h9_36 T9
                refine SX.seq_k fun K38 hK38 => ?_
                refine SX.quiet_d (hP ▸ T.mixed) (by kernel_rfl) [some 60, some 61, some 62, some 63, some 64, some 65, some 14, some 15] rfl (fun ops hops => ?_)
                unfold Dsts at hops
                simp (maxSteps:=1000000)(dsimp:=false)(disch:=omega) only [go_sem, Φa, hP, h10_2, h10_9, h10_10, h10_12, h10_13, h10_34, h10_35, h10_36, hops]
                refine ⟨_, Cell.at 2 rfl rfl, _, Cell.at 2 rfl rfl, _, Cell.at 2 rfl rfl, _, Cell.at 2 rfl rfl, ?_⟩
                try with_reducible refine stI ?_
                try simp (maxSteps:=1000000)(dsimp:=false)(disch:=omega) only [go_sem, Φa, hP, h10_2, h10_9, h10_10, h10_12, h10_13, h10_34, h10_35, h10_36, hops]
                refine ⟨_, Cell.at 0 rfl rfl, _, Cell.at 0 rfl rfl, _, Cell.at 0 rfl rfl, _, Cell.at 0 rfl rfl, _, Cell.at 0 rfl rfl, _, Cell.at 0 rfl rfl, _, Cell.at 0 rfl rfl, _, Cell.at 0 rfl rfl, ?_⟩
                try with_reducible refine stI ?_
                try simp (maxSteps:=1000000)(dsimp:=false)(disch:=omega) only [go_sem, Φa, hP, h10_2, h10_9, h10_10, h10_12, h10_13, h10_34, h10_35, h10_36, hops]
                refine ⟨_, TakesR_spec hP S, ?_⟩
                try with_reducible refine stI ?_
                try simp (maxSteps:=1000000)(dsimp:=false)(disch:=omega) only [go_sem, Φa, hP, h10_2, h10_9, h10_10, h10_12, h10_13, h10_34, h10_35, h10_36, hops]
                refine ⟨_, Cell.at 2 rfl rfl, ?_⟩
                try with_reducible refine stI ?_
                try simp (maxSteps:=1000000)(dsimp:=false)(disch:=omega) only [go_sem, Φa, hP, h10_2, h10_9, h10_10, h10_12, h10_13, h10_34, h10_35, h10_36, hops]
                refine hK38 _ _ ?_
                try clear hK38 K38
                refine SX.seq_k fun K39 hK39 => ?_
                refine SX.region_d [some 66, some 67, some 68, some 69, some 70, none] rfl (fun ops hops => ?_)
                unfold Dsts at hops
                simp (maxSteps:=1000000)(dsimp:=false)(disch:=omega) only [go_sem, Φa, hP, h10_2, h10_9, h10_10, h10_12, h10_13, h10_34, h10_35, h10_36, hops]
                refine ⟨_, Cell.at 2 rfl rfl, _, Cell.at 2 rfl rfl, _, Cell.at 2 rfl rfl, _, Cell.at 2 rfl rfl, ?_⟩
                try with_reducible refine stI ?_
                try simp (maxSteps:=1000000)(dsimp:=false)(disch:=omega) only [go_sem, Φa, hP, h10_2, h10_9, h10_10, h10_12, h10_13, h10_34, h10_35, h10_36, hops]
                refine ⟨_, Cell.at 0 rfl rfl, _, Cell.at 0 rfl rfl, _, Cell.at 0 rfl rfl, _, Cell.at 0 rfl rfl, _, Cell.at 0 rfl rfl, _, Cell.at 0 rfl rfl, _, Cell.at 0 rfl rfl, _, Cell.at 0 rfl rfl, ?_⟩
                try with_reducible refine stI ?_
                try simp (maxSteps:=1000000)(dsimp:=false)(disch:=omega) only [go_sem, Φa, hP, h10_2, h10_9, h10_10, h10_12, h10_13, h10_34, h10_35, h10_36, hops]
                refine ⟨_, Cell.at 1 rfl rfl, ?_⟩
                try with_reducible refine stI ?_
                try simp (maxSteps:=1000000)(dsimp:=false)(disch:=omega) only [go_sem, Φa, hP, h10_2, h10_9, h10_10, h10_12, h10_13, h10_34, h10_35, h10_36, hops]
                refine SCall.mono (StepR_spec hP S) ?_
                rintro v_ L_ ⟨hv_, hL_⟩
                rw [hv_, hL_]
                clear hv_ hL_ v_ L_
                try with_reducible refine stI ?_
                try simp (maxSteps:=1000000)(dsimp:=false)(disch:=omega) only [go_sem, Φa, hP, h10_2, h10_9, h10_10, h10_12, h10_13, h10_34, h10_35, h10_36, hops]
                refine ⟨2, _, _, _, rfl, by simp, .inr (by decide), ?_⟩
                try with_reducible refine stI ?_
                try simp (maxSteps:=1000000)(dsimp:=false)(disch:=omega) only [go_sem, Φa, hP, h10_2, h10_9, h10_10, h10_12, h10_13, h10_34, h10_35, h10_36, hops]
                refine hK39 _ _ ?_
                try clear hK39 K39
                refine SX.live [2, 9, 10, 12, 14, 15, 34, 35, 36] (fun T11 hT11 => ?_)
                simp only [forall_mem_cons', forall_mem_nil', go_sem, Φa, hP, h10_2, h10_9, h10_10, h10_12, h10_13, h10_34, h10_35, h10_36] at hT11
                obtain ⟨h11_2, h11_9, h11_10, h11_12, h11_14, h11_15, h11_34, h11_35, h11_36⟩ := hT11
                clear h10_2 h10_9 h10_10 h10_12 h10_13 h10_34 h10_35 h10_36 T10
                refine SX.seq_k fun K40 hK40 => ?_
                refine SX.seq_k fun K41 hK41 => ?_
                refine SX.region_d [some 71, some 72] rfl (fun ops hops => ?_)
                unfold Dsts at hops
                simp (maxSteps:=1000000)(dsimp:=false)(disch:=omega) only [go_sem, Φa, hP, h11_2, h11_9, h11_10, h11_12, h11_14, h11_15, h11_34, h11_35, h11_36, hops, nowP, nowH]
                rcases nw1 with _ | ⟨gp, ⟨fa, fr, fsh⟩, d⟩
                · skip
                  try with_reducible refine stI ?_
                  try with_reducible refine stI ?_
                  try simp (maxSteps:=1000000)(dsimp:=false)(disch:=omega) only [go_sem, Φa, hP, h11_2, h11_9, h11_10, h11_12, h11_14, h11_15, h11_34, h11_35, h11_36, hops, nowP, nowH]
                  refine hK41 _ _ ?_
                  try clear hK41 K41
                  refine SX.cond_k fun X42 Y42 hX42 hY42 => ?_
                  simp (maxSteps:=1000000)(dsimp:=false)(disch:=omega) only [go_sem, Φa, hP, h11_2, h11_9, h11_10, h11_12, h11_14, h11_15, h11_34, h11_35, h11_36, condVC]
                  refine hX42 ?_
                  clear hX42 hY42 X42 Y42
                  refine SX.exit ?_
                  try simp only [noGo_normal, noGo_ret, noGo_exit, andThen_normal, andThen_ret, andThen_exit, inBlk_normal, inBlk_ret, inBlk_exit, Nat.reduceEqDiff, if_true, if_false, ↓reduceIte]
                  refine hK31 _ _ ?_
                  try clear hK31 K31
                  refine SX.region_d [some 113, some 36] rfl (fun ops hops => ?_)
                  unfold Dsts at hops
                  simp (maxSteps:=1000000)(dsimp:=false)(disch:=omega) only [go_sem, Φa, hP, h11_2, h11_9, h11_10, h11_12, h11_14, h11_15, h11_34, h11_35, h11_36, hops]
                  repeat' ((first | refine And.intro (by omega) ?_ | fail); try (with_reducible refine stI ?_); try simp (maxSteps:=1000000)(dsimp:=false)(disch:=omega) only [go_sem, Φa, hP, h11_2, h11_9, h11_10, h11_12, h11_14, h11_15, h11_34, h11_35, h11_36, hops])
                  refine hK27 (k + 1, rasN X r, none, vo, so, fs) _ (some (bR, .cells [.int .i64 (rasN X r).1, .int .i64 (rasN X r).2.1, .bool (rasN X r).2.2.1, .int .i64 (rasN X r).2.2.2].toArray 24 (0, 0)) :: so :: (nowH none ++ (segs fs ++ L))) _ (by exact Less.drops (Less.drop _ _)) ?_ ?_
                  · try dsimp only
                    refine ⟨?_, ?_, ?_, ?_, ?_, ?_, ?_, ?_⟩
                    · simp (maxSteps:=1000000)(dsimp:=false)(disch:=omega) only [go_sem, Φa, hP, h11_2, h11_9, h11_10, h11_12, h11_14, h11_15, h11_34, h11_35, h11_36]
                      first | done | rfl | skip
                    · simp (maxSteps:=1000000)(dsimp:=false)(disch:=omega) only [go_sem, Φa, hP, h11_2, h11_9, h11_10, h11_12, h11_14, h11_15, h11_34, h11_35, h11_36]
                      first | done | rfl | skip
                    · simp (maxSteps:=1000000)(dsimp:=false)(disch:=omega) only [go_sem, Φa, hP, h11_2, h11_9, h11_10, h11_12, h11_14, h11_15, h11_34, h11_35, h11_36]
                      first | done | rfl | skip
                    · simp (maxSteps:=1000000)(dsimp:=false)(disch:=omega) only [go_sem, Φa, hP, h11_2, h11_9, h11_10, h11_12, h11_14, h11_15, h11_34, h11_35, h11_36]
                    · simp (maxSteps:=1000000)(dsimp:=false)(disch:=omega) only [go_sem, Φa, hP, h11_2, h11_9, h11_10, h11_12, h11_14, h11_15, h11_34, h11_35, h11_36]
                    · simp (maxSteps:=1000000)(dsimp:=false)(disch:=omega) only [go_sem, Φa, hP, h11_2, h11_9, h11_10, h11_12, h11_14, h11_15, h11_34, h11_35, h11_36]
                    · rfl
                    · refine ⟨by omega, hrow, hfs, fun q hq => (by cases hq), ?_⟩
                      rw [hstep, stF_none hns1.symm]
                      rfl
                  · (try dsimp only); omega
                · skip
                  try with_reducible refine stI ?_
                  obtain ⟨hd, hsh⟩ := hnk1 _ rfl
                  cases hsh
                  have hcb := begunN_cnt hcn hns1.symm
                  dsimp only at hd hcb
                  try with_reducible refine stI ?_
                  try simp (maxSteps:=1000000)(dsimp:=false)(disch:=omega) only [go_sem, Φa, hP, h11_2, h11_9, h11_10, h11_12, h11_14, h11_15, h11_34, h11_35, h11_36, hops, nowP, nowH]
                  refine hK41 _ _ ?_
                  try clear hK41 K41
                  refine SX.cond_k fun X43 Y43 hX43 hY43 => ?_
                  simp (maxSteps:=1000000)(dsimp:=false)(disch:=omega) only [go_sem, Φa, hP, h11_2, h11_9, h11_10, h11_12, h11_14, h11_15, h11_34, h11_35, h11_36, condVC]
                  refine hY43 ?_
                  clear hX43 hY43 X43 Y43
                  refine SX.skip ?_
                  try simp only [noGo_normal, noGo_ret, noGo_exit, andThen_normal, andThen_ret, andThen_exit, inBlk_normal, inBlk_ret, inBlk_exit, Nat.reduceEqDiff, if_true, if_false, ↓reduceIte]
                  refine hK40 _ _ ?_
                  try clear hK40 K40
                  refine SX.live [2, 9, 10, 12, 14, 15, 34, 35, 36] (fun T12 hT12 => ?_)
                  simp only [forall_mem_cons', forall_mem_nil', go_sem, Φa, hP, h11_2, h11_9, h11_10, h11_12, h11_14, h11_15, h11_34, h11_35, h11_36] at hT12
                  obtain ⟨h12_2, h12_9, h12_10, h12_12, h12_14, h12_15, h12_34, h12_35, h12_36⟩ := hT12
                  clear h11_2 h11_9 h11_10 h11_12 h11_14 h11_15 h11_34 h11_35 h11_36 T11
                  refine SX.join (fun (ss : (Fd)) T L' => (fun (d1 : Fd) => T 2 = T12 2 ∧ T 9 = T12 9 ∧ T 10 = T12 10 ∧ T 34 = T12 34 ∧ T 35 = T12 35 ∧ T 36 = T12 36 ∧ L' = some (g19, .cells [.int .u8 r.code, .int .u16 0, .bool r.rd, .bool r.wr, .bool false, .int .u8 0, .int .u8 r.port, .bool false].toArray 49 (0, 0)) :: some (g16, .cells [.int .u8 r.code, .int .u16 r.ad, .int .u8 r.data, .bool r.rd, .bool r.wr, .int .u8 r.port, .bool r.q, .int .u8 r.md].toArray 29 (0, 0)) :: some (bR, .cells [.int .i64 (rasN X r).1, .int .i64 (rasN X r).2.1, .bool (rasN X r).2.2.1, .int .i64 (rasN X r).2.2.2].toArray 24 (0, 0)) :: so :: some (gp, .cells [.int .i64 fa, .slice (some ⟨d1.g, 0, none⟩) 128 128, .bool false].toArray 41 (0, 0)) :: (d1.seg ++ (segs fs ++ L)) ∧ (FdOk (tookN X r fr) d1)) (ss)) (fun K44 hK44 => ?_) ?_
                  · simp only [h12_2, h12_9, h12_10, h12_34, h12_35, h12_36] at hK44
                    refine SX.seq_k fun K45 hK45 => ?_
                    refine SX.region_d [some 73] rfl (fun ops hops => ?_)
                    unfold Dsts at hops
                    simp (maxSteps:=1000000)(dsimp:=false)(disch:=omega) only [go_sem, Φa, hP, h12_2, h12_9, h12_10, h12_12, h12_14, h12_15, h12_34, h12_35, h12_36, hops]
                    refine hK45 _ _ ?_
                    try clear hK45 K45
                    refine SX.cond_k fun X46 Y46 hX46 hY46 => ?_
                    simp (maxSteps:=1000000)(dsimp:=false)(disch:=omega) only [go_sem, Φa, hP, h12_2, h12_9, h12_10, h12_12, h12_14, h12_15, h12_34, h12_35, h12_36, condVC]
                    refine ⟨fun hc73 => hX46 ?_, fun hc73 => hY46 ?_⟩
                    · clear hX46 hY46 X46 Y46
                      have hlt := takesN_line hc73
                      have hlj : lineN X < d.ss.length := by have := hd.ns; omega
                      have hv := getD_get (d := undef) (by have := hd.nv; omega : lineN X < d.vals.length)
                      have hrw := hd.row (lineN X) hlt.1
                      have hln : (X.1 - 80).toNat = lineN X := rfl
                      have hca := cnt_at (by have := hd.n; omega : lineN X < fr.length)
                      refine SX.drawn_d [(0, .q), (1, .q), (2, .q), (3, .q), (4, .q), (5, .q), (6, .q), (7, .q), (8, .q), (9, .q), (10, .q), (11, .q), (12, .q), (13, .q), (14, .e), (15, .e), (16, .q), (17, .t)] (fun _ => [some (g16, .cells [.int .u8 r.code, .int .u16 r.ad, .int .u8 r.data, .bool r.rd, .bool r.wr, .int .u8 r.port, .bool r.q, .int .u8 r.md].toArray 29 (0, 0)), some (gp, .cells [.int .i64 fa, .slice (some ⟨d.g, 0, none⟩) 128 128, .bool false].toArray 41 (0, 0)), some (d.g, .cells d.vals.toArray 50 (0, 0))]) (hP ▸ T.mixed) (by kernel_rfl) (by exact lessG24) [some 74, some 75, some 76, some 77, some 78, some 79, some 80, some 81, some 82, some 83, some 84, some 85, some 86, some 87, some 88, some 89, some 90, none] rfl (fun ops hops hopl => ?_)
                      unfold Dsts at hops
                      simp (maxSteps:=1000000)(dsimp:=false)(disch:=omega) only [go_sem, Φa, hP, h12_2, h12_9, h12_10, h12_12, h12_14, h12_15, h12_34, h12_35, h12_36, hops, hopl, hln, nowP]
                      refine ⟨_, Cell.at 1 rfl rfl, ?_⟩
                      try with_reducible refine stI ?_
                      try simp (maxSteps:=1000000)(dsimp:=false)(disch:=omega) only [go_sem, Φa, hP, h12_2, h12_9, h12_10, h12_12, h12_14, h12_15, h12_34, h12_35, h12_36, hops, hopl, hln, nowP]
                      refine ⟨_, Cell.at 1 rfl rfl, ?_⟩
                      try with_reducible refine stI ?_
                      try simp (maxSteps:=1000000)(dsimp:=false)(disch:=omega) only [go_sem, Φa, hP, h12_2, h12_9, h12_10, h12_12, h12_14, h12_15, h12_34, h12_35, h12_36, hops, hopl, hln, nowP]
                      refine ⟨_, Cell.at 2 rfl hv, ?_⟩
                      try with_reducible refine stI ?_
                      try simp (maxSteps:=1000000)(dsimp:=false)(disch:=omega) only [go_sem, Φa, hP, h12_2, h12_9, h12_10, h12_12, h12_14, h12_15, h12_34, h12_35, h12_36, hops, hopl, hln, nowP]
                      refine ⟨_, Cell.at 0 rfl rfl, ?_⟩
                      try with_reducible refine stI ?_
                      try simp (maxSteps:=1000000)(dsimp:=false)(disch:=omega) only [go_sem, Φa, hP, h12_2, h12_9, h12_10, h12_12, h12_14, h12_15, h12_34, h12_35, h12_36, hops, hopl, hln, nowP]
                      intro g24
                      try with_reducible refine stI ?_
                      try simp (maxSteps:=1000000)(dsimp:=false)(disch:=omega) only [go_sem, Φa, hP, h12_2, h12_9, h12_10, h12_12, h12_14, h12_15, h12_34, h12_35, h12_36, hops, hopl, hln, nowP]
                      refine ⟨Less.drops lessG24, ?_⟩
                      try with_reducible refine stI ?_
                      try simp (maxSteps:=1000000)(dsimp:=false)(disch:=omega) only [go_sem, Φa, hP, h12_2, h12_9, h12_10, h12_12, h12_14, h12_15, h12_34, h12_35, h12_36, hops, hopl, hln, nowP]
                      refine YAppend.int1 (i := lineN X + 6) (hP ▸ T.elS_50) (hP ▸ T.zr_5) rfl (get6 hlj) hrw (by omega) (by decide) ?_
                      intro v' s' hr'
                      obtain ⟨A', c', rfl, hcc', _⟩ := Row.form hr'
                      try with_reducible refine stI ?_
                      try simp (maxSteps:=1000000)(dsimp:=false)(disch:=omega) only [go_sem, Φa, hP, h12_2, h12_9, h12_10, h12_12, h12_14, h12_15, h12_34, h12_35, h12_36, hops, hopl, hln, nowP]
                      rw [seg_set hlj]
                      refine ⟨Less.drops (lessG24 (d := ⟨d.g, d.vals, _⟩)), ?_⟩
                      try with_reducible refine stI ?_
                      try simp (maxSteps:=1000000)(dsimp:=false)(disch:=omega) only [go_sem, Φa, hP, h12_2, h12_9, h12_10, h12_12, h12_14, h12_15, h12_34, h12_35, h12_36, hops, hopl, hln, nowP]
                      refine ⟨6, _, _, _, rfl, (by have := hd.nv; simp; omega), .inr (by omega), ?_⟩
                      try with_reducible refine stI ?_
                      try simp (maxSteps:=1000000)(dsimp:=false)(disch:=omega) only [go_sem, Φa, hP, h12_2, h12_9, h12_10, h12_12, h12_14, h12_15, h12_34, h12_35, h12_36, hops, hopl, hln, nowP]
                      refine hK44 (⟨d.g, d.vals.set (lineN X) (.slice A' (fr.getD (lineN X) [] ++ [r.data]).length c'), d.ss.set (lineN X) s'⟩ : Fd) _ (some (g19, .cells [.int .u8 r.code, .int .u16 0, .bool r.rd, .bool r.wr, .bool false, .int .u8 0, .int .u8 r.port, .bool false].toArray 49 (0, 0)) :: some (g16, .cells [.int .u8 r.code, .int .u16 r.ad, .int .u8 r.data, .bool r.rd, .bool r.wr, .int .u8 r.port, .bool r.q, .int .u8 r.md].toArray 29 (0, 0)) :: some (bR, .cells [.int .i64 (rasN X r).1, .int .i64 (rasN X r).2.1, .bool (rasN X r).2.2.1, .int .i64 (rasN X r).2.2.2].toArray 24 (0, 0)) :: so :: some (gp, .cells [.int .i64 fa, .slice (some ⟨((⟨d.g, d.vals.set (lineN X) (.slice A' (fr.getD (lineN X) [] ++ [r.data]).length c'), d.ss.set (lineN X) s'⟩ : Fd)).g, 0, none⟩) 128 128, .bool false].toArray 41 (0, 0)) :: (((⟨d.g, d.vals.set (lineN X) (.slice A' (fr.getD (lineN X) [] ++ [r.data]).length c'), d.ss.set (lineN X) s'⟩ : Fd)).seg ++ (segs fs ++ L))) _ (by exact less24 hlj) ?_
                      try dsimp only
                      refine ⟨?_, ?_, ?_, ?_, ?_, ?_, ?_, ?_⟩
                      · simp (maxSteps:=1000000)(dsimp:=false)(disch:=omega) only [go_sem, Φa, hP, h12_2, h12_9, h12_10, h12_12, h12_14, h12_15, h12_34, h12_35, h12_36]
                      · simp (maxSteps:=1000000)(dsimp:=false)(disch:=omega) only [go_sem, Φa, hP, h12_2, h12_9, h12_10, h12_12, h12_14, h12_15, h12_34, h12_35, h12_36]
                      · simp (maxSteps:=1000000)(dsimp:=false)(disch:=omega) only [go_sem, Φa, hP, h12_2, h12_9, h12_10, h12_12, h12_14, h12_15, h12_34, h12_35, h12_36]
                      · simp (maxSteps:=1000000)(dsimp:=false)(disch:=omega) only [go_sem, Φa, hP, h12_2, h12_9, h12_10, h12_12, h12_14, h12_15, h12_34, h12_35, h12_36]
                      · simp (maxSteps:=1000000)(dsimp:=false)(disch:=omega) only [go_sem, Φa, hP, h12_2, h12_9, h12_10, h12_12, h12_14, h12_15, h12_34, h12_35, h12_36]
                      · simp (maxSteps:=1000000)(dsimp:=false)(disch:=omega) only [go_sem, Φa, hP, h12_2, h12_9, h12_10, h12_12, h12_14, h12_15, h12_34, h12_35, h12_36]
                      · rfl
                      · unfold tookN
                        rw [if_pos hc73]
                        exact hd.set hlt.1 hr'
                    · clear hX46 hY46 X46 Y46
                      refine SX.skip ?_
                      try simp only [noGo_normal, noGo_ret, noGo_exit, andThen_normal, andThen_ret, andThen_exit, inBlk_normal, inBlk_ret, inBlk_exit, Nat.reduceEqDiff, if_true, if_false, ↓reduceIte]
                      refine hK44 d _ (some (g19, .cells [.int .u8 r.code, .int .u16 0, .bool r.rd, .bool r.wr, .bool false, .int .u8 0, .int .u8 r.port, .bool false].toArray 49 (0, 0)) :: some (g16, .cells [.int .u8 r.code, .int .u16 r.ad, .int .u8 r.data, .bool r.rd, .bool r.wr, .int .u8 r.port, .bool r.q, .int .u8 r.md].toArray 29 (0, 0)) :: some (bR, .cells [.int .i64 (rasN X r).1, .int .i64 (rasN X r).2.1, .bool (rasN X r).2.2.1, .int .i64 (rasN X r).2.2.2].toArray 24 (0, 0)) :: so :: some (gp, .cells [.int .i64 fa, .slice (some ⟨d.g, 0, none⟩) 128 128, .bool false].toArray 41 (0, 0)) :: (d.seg ++ (segs fs ++ L))) _ (by exact Less.refl _) ?_
                      try dsimp only
                      refine ⟨?_, ?_, ?_, ?_, ?_, ?_, ?_, ?_⟩
                      · simp (maxSteps:=1000000)(dsimp:=false)(disch:=omega) only [go_sem, Φa, hP, h12_2, h12_9, h12_10, h12_12, h12_14, h12_15, h12_34, h12_35, h12_36]
                      · simp (maxSteps:=1000000)(dsimp:=false)(disch:=omega) only [go_sem, Φa, hP, h12_2, h12_9, h12_10, h12_12, h12_14, h12_15, h12_34, h12_35, h12_36]
                      · simp (maxSteps:=1000000)(dsimp:=false)(disch:=omega) only [go_sem, Φa, hP, h12_2, h12_9, h12_10, h12_12, h12_14, h12_15, h12_34, h12_35, h12_36]
                      · simp (maxSteps:=1000000)(dsimp:=false)(disch:=omega) only [go_sem, Φa, hP, h12_2, h12_9, h12_10, h12_12, h12_14, h12_15, h12_34, h12_35, h12_36]
                      · simp (maxSteps:=1000000)(dsimp:=false)(disch:=omega) only [go_sem, Φa, hP, h12_2, h12_9, h12_10, h12_12, h12_14, h12_15, h12_34, h12_35, h12_36]
                      · simp (maxSteps:=1000000)(dsimp:=false)(disch:=omega) only [go_sem, Φa, hP, h12_2, h12_9, h12_10, h12_12, h12_14, h12_15, h12_34, h12_35, h12_36]
                      · rfl
                      · unfold tookN
                        rw [if_neg (by rw [hc73]; exact Bool.false_ne_true)]
                        exact hd
                  · intro d1 T13 L13 hI
                    try dsimp only at hI 
                    simp only [h12_2, h12_9, h12_10, h12_34, h12_35, h12_36] at hI 
                    obtain ⟨h13_2, h13_9, h13_10, h13_34, h13_35, h13_36, hL13, hd1⟩ := hI
                    replace hL13 := hL13.symm
                    subst hL13
                    clear h12_2 h12_9 h12_10 h12_12 h12_14 h12_15 h12_34 h12_35 h12_36 T12
                    refine SX.seq_k fun K47 hK47 => ?_
                    refine SX.region_xd [some 91, some 92, some 93, some 94, some 95, some 96, some 97, some 98] rfl (fun ops hops => ?_)
                    unfold Dsts at hops
                    refine RX.live [2, 9, 10, 34, 35, 36] (fun T14 hT14 => ?_)
                    simp only [forall_mem_cons', forall_mem_nil', go_sem, Φa, hP, h13_2, h13_9, h13_10, h13_34, h13_35, h13_36] at hT14
                    obtain ⟨h14_2, h14_9, h14_10, h14_34, h14_35, h14_36⟩ := hT14
                    clear h13_2 h13_9 h13_10 h13_34 h13_35 h13_36 T13
                    refine RX.join 8 (fun (ss : Unit) T L' => T 98 = .bool (atZ (rasN X r)) ∧ T 2 = T14 2 ∧ T 9 = T14 9 ∧ T 10 = T14 10 ∧ T 34 = T14 34 ∧ T 35 = T14 35 ∧ T 36 = T14 36 ∧ L' = some (g19, .cells [.int .u8 r.code, .int .u16 0, .bool r.rd, .bool r.wr, .bool false, .int .u8 0, .int .u8 r.port, .bool false].toArray 49 (0, 0)) :: some (g16, .cells [.int .u8 r.code, .int .u16 r.ad, .int .u8 r.data, .bool r.rd, .bool r.wr, .int .u8 r.port, .bool r.q, .int .u8 r.md].toArray 29 (0, 0)) :: some (bR, .cells [.int .i64 (rasN X r).1, .int .i64 (rasN X r).2.1, .bool (rasN X r).2.2.1, .int .i64 (rasN X r).2.2.2].toArray 24 (0, 0)) :: so :: some (gp, .cells [.int .i64 fa, .slice (some ⟨d1.g, 0, none⟩) 128 128, .bool false].toArray 41 (0, 0)) :: (d1.seg ++ (segs fs ++ L)) ∧ (True)) (fun K48 hK48 => ?_) ?_
                    · simp only [h14_2, h14_9, h14_10, h14_34, h14_35, h14_36] at hK48
                      simp (maxSteps:=1000000)(dsimp:=false)(disch:=omega) only [go_sem, Φa, hP, h14_2, h14_9, h14_10, h14_34, h14_35, h14_36, hops]
                      repeat' (first | refine iteB (fun hg => ?_) (fun hg => ?_) | refine iteI (fun hg => ?_) (fun hg => ?_) | ((first | refine And.intro (by omega) ?_ | refine ⟨_, Cell.at 0 rfl rfl, ?_⟩ | refine ⟨_, Cell.at 1 rfl rfl, ?_⟩ | refine ⟨_, Cell.at 2 rfl rfl, ?_⟩ | refine ⟨_, Cell.at 3 rfl rfl, ?_⟩ | refine ⟨_, Cell.at 4 rfl rfl, ?_⟩ | fail); try (with_reducible refine stI ?_); try simp (maxSteps:=1000000)(dsimp:=false)(disch:=omega) only [go_sem, Φa, hP, h14_2, h14_9, h14_10, h14_34, h14_35, h14_36, hops]) | fail)
                      all_goals
                        refine hK48 () _ (some (g19, .cells [.int .u8 r.code, .int .u16 0, .bool r.rd, .bool r.wr, .bool false, .int .u8 0, .int .u8 r.port, .bool false].toArray 49 (0, 0)) :: some (g16, .cells [.int .u8 r.code, .int .u16 r.ad, .int .u8 r.data, .bool r.rd, .bool r.wr, .int .u8 r.port, .bool r.q, .int .u8 r.md].toArray 29 (0, 0)) :: some (bR, .cells [.int .i64 (rasN X r).1, .int .i64 (rasN X r).2.1, .bool (rasN X r).2.2.1, .int .i64 (rasN X r).2.2.2].toArray 24 (0, 0)) :: so :: some (gp, .cells [.int .i64 fa, .slice (some ⟨d1.g, 0, none⟩) 128 128, .bool false].toArray 41 (0, 0)) :: (d1.seg ++ (segs fs ++ L))) _ (by first | exact Less.refl _ | exact Less.drop _ _ | exact Less.drops (Less.drop _ _) | exact Less.drops (Less.drops (Less.drop _ _)) | exact Less.drops (Less.drops (Less.drops (Less.drop _ _))) | exact Less.drops (Less.drops (Less.drops (Less.drops (Less.drop _ _))))) ?_
                        try dsimp only
                        refine ⟨?_, ?_, ?_, ?_, ?_, ?_, ?_, ?_, ?_⟩
                        · simp (maxSteps:=1000000)(dsimp:=false)(disch:=omega) only [go_sem, Φa, hP, h14_2, h14_9, h14_10, h14_34, h14_35, h14_36]
                          first | done | rfl | (refine congrArg Value.bool ?_; unfold atZ; simp_all; done)
                        · simp (maxSteps:=1000000)(dsimp:=false)(disch:=omega) only [go_sem, Φa, hP, h14_2, h14_9, h14_10, h14_34, h14_35, h14_36]
                        · simp (maxSteps:=1000000)(dsimp:=false)(disch:=omega) only [go_sem, Φa, hP, h14_2, h14_9, h14_10, h14_34, h14_35, h14_36]
                        · simp (maxSteps:=1000000)(dsimp:=false)(disch:=omega) only [go_sem, Φa, hP, h14_2, h14_9, h14_10, h14_34, h14_35, h14_36]
                        · simp (maxSteps:=1000000)(dsimp:=false)(disch:=omega) only [go_sem, Φa, hP, h14_2, h14_9, h14_10, h14_34, h14_35, h14_36]
                        · simp (maxSteps:=1000000)(dsimp:=false)(disch:=omega) only [go_sem, Φa, hP, h14_2, h14_9, h14_10, h14_34, h14_35, h14_36]
                        · simp (maxSteps:=1000000)(dsimp:=false)(disch:=omega) only [go_sem, Φa, hP, h14_2, h14_9, h14_10, h14_34, h14_35, h14_36]
                        · rfl
                        · trivial
                    · intro ss T15 L15 hI
                      simp only [h14_2, h14_9, h14_10, h14_34, h14_35, h14_36] at hI 
                      obtain ⟨h15_98, h15_2, h15_9, h15_10, h15_34, h15_35, h15_36, hL15, hinv⟩ := hI
                      replace hL15 := hL15.symm
                      subst hL15
                      clear h14_2 h14_9 h14_10 h14_34 h14_35 h14_36 T14
                      refine RX.done ?_
                      simp (maxSteps:=1000000)(dsimp:=false)(disch:=omega) only [go_sem, Φa, hP, h15_98, h15_2, h15_9, h15_10, h15_34, h15_35, h15_36, hops]
                      refine hK47 _ _ ?_
                      try clear hK47 K47
                      refine SX.cond_k fun X49 Y49 hX49 hY49 => ?_
                      simp (maxSteps:=1000000)(dsimp:=false)(disch:=omega) only [go_sem, Φa, hP, h15_98, h15_2, h15_9, h15_10, h15_34, h15_35, h15_36, condVC]
                      refine ⟨fun hc98 => hX49 ?_, fun hc98 => hY49 ?_⟩
                      · clear hX49 hY49 X49 Y49
                        refine SX.seq_k fun K50 hK50 => ?_
                        have hcb2 := tookN_cnt (x := X) (r := r) hcb.2
                        have hsl1 : SlR (Cell Γ (some (g19, .cells [.int .u8 r.code, .int .u16 0, .bool r.rd, .bool r.wr, .bool false, .int .u8 0, .int .u8 r.port, .bool false].toArray 49 (0, 0)) :: some (g16, .cells [.int .u8 r.code, .int .u16 r.ad, .int .u8 r.data, .bool r.rd, .bool r.wr, .int .u8 r.port, .bool r.q, .int .u8 r.md].toArray 29 (0, 0)) :: some (bR, .cells [.int .i64 (rasN X r).1, .int .i64 (rasN X r).2.1, .bool (rasN X r).2.2.1, .int .i64 (rasN X r).2.2.2].toArray 24 (0, 0)) :: so :: some (gp, .cells [.int .i64 fa, .slice (some ⟨d1.g, 0, none⟩) 128 128, .bool false].toArray 41 (0, 0)) :: (d1.seg ++ (segs fs ++ L)))) d1.val (tookN X r fr) := hd1.sl (fun s hs => List.mem_cons_of_mem _ (List.mem_cons_of_mem _ (List.mem_cons_of_mem _ (List.mem_cons_of_mem _ (List.mem_cons_of_mem _ (List.mem_append_left _ hs))))))
                        have hrl1 := tookN_len X r fr
                        have hshb : decide (((cnt (tookN X r fr) : Nat) : Int) < 1024) = shortB (tookN X r fr) := decide_eq_decide.2 (by omega)
                        refine SX.region_d [some 99, some 100, some 101, some 102, some 103, some 104, some 105, some 106, none] rfl (fun ops hops => ?_)
                        unfold Dsts at hops
                        simp (maxSteps:=1000000)(dsimp:=false)(disch:=omega) only [go_sem, Φa, hP, h15_98, h15_2, h15_9, h15_10, h15_34, h15_35, h15_36, hops, hshb, nowP]
                        refine ⟨_, Cell.at 4 rfl rfl, _, Cell.at 4 rfl rfl, _, Cell.at 4 rfl rfl, ?_⟩
                        try with_reducible refine stI ?_
                        try simp (maxSteps:=1000000)(dsimp:=false)(disch:=omega) only [go_sem, Φa, hP, h15_98, h15_2, h15_9, h15_10, h15_34, h15_35, h15_36, hops, hshb, nowP]
                        refine SCall.mono (count_spec hP hsl1 (by omega) (by omega)) ?_
                        rintro v_ L_ ⟨hv_, hL_⟩
                        rw [hv_, hL_]
                        clear hv_ hL_ v_ L_
                        try with_reducible refine stI ?_
                        try simp (maxSteps:=1000000)(dsimp:=false)(disch:=omega) only [go_sem, Φa, hP, h15_98, h15_2, h15_9, h15_10, h15_34, h15_35, h15_36, hops, hshb, nowP]
                        refine ⟨4, _, _, _, rfl, (by simp), .inr (by decide), ?_⟩
                        try with_reducible refine stI ?_
                        try simp (maxSteps:=1000000)(dsimp:=false)(disch:=omega) only [go_sem, Φa, hP, h15_98, h15_2, h15_9, h15_10, h15_34, h15_35, h15_36, hops, hshb, nowP]
                        refine hK50 _ _ ?_
                        try clear hK50 K50
                        refine SX.seq_k fun K51 hK51 => ?_
                        refine SX.region_d [some 107, some 108, some 109, some 110, some 111, some 112, some 9] rfl (fun ops hops => ?_)
                        unfold Dsts at hops
                        simp (maxSteps:=1000000)(dsimp:=false)(disch:=omega) only [go_sem, Φa, hP, h15_98, h15_2, h15_9, h15_10, h15_34, h15_35, h15_36, hops, nowP]
                        refine ⟨_, Cell.at 4 rfl rfl, _, Cell.at 4 rfl rfl, _, Cell.at 4 rfl rfl, ?_⟩
                        try with_reducible refine stI ?_
                        try simp (maxSteps:=1000000)(dsimp:=false)(disch:=omega) only [go_sem, Φa, hP, h15_98, h15_2, h15_9, h15_10, h15_34, h15_35, h15_36, hops, nowP]
                        intro g27
                        try with_reducible refine stI ?_
                        try simp (maxSteps:=1000000)(dsimp:=false)(disch:=omega) only [go_sem, Φa, hP, h15_98, h15_2, h15_9, h15_10, h15_34, h15_35, h15_36, hops, nowP]
                        refine YAppend.rowL (f := fval) (x := ((⟨fa, tookN X r fr, shortB (tookN X r fr)⟩ : Fm), d1)) (i := 3) (z := [.int .i64 0, .slice none 0 0, .bool false]) (hP ▸ T.elS_30) (hP ▸ T.zr_41) rfl rfl rfl rfl hrow (by omega) (by decide) ?_
                        intro v' s' hrow'
                        try with_reducible refine stI ?_
                        try simp (maxSteps:=1000000)(dsimp:=false)(disch:=omega) only [go_sem, Φa, hP, h15_98, h15_2, h15_9, h15_10, h15_34, h15_35, h15_36, hops, nowP]
                        refine hK51 _ _ ?_
                        try clear hK51 K51
                        refine SX.live [2, 9, 34, 35, 36] (fun T16 hT16 => ?_)
                        simp only [forall_mem_cons', forall_mem_nil', go_sem, Φa, hP, h15_98, h15_2, h15_9, h15_10, h15_34, h15_35, h15_36] at hT16
                        obtain ⟨h16_2, h16_9, h16_34, h16_35, h16_36⟩ := hT16
                        clear h15_98 h15_2 h15_9 h15_10 h15_34 h15_35 h15_36 T15
                        refine SX.region_d [some 10] rfl (fun ops hops => ?_)
                        unfold Dsts at hops
                        simp (maxSteps:=1000000)(dsimp:=false)(disch:=omega) only [go_sem, Φa, hP, h16_2, h16_9, h16_34, h16_35, h16_36, hops]
                        refine hK31 _ _ ?_
                        try clear hK31 K31
                        refine SX.region_d [some 113, some 36] rfl (fun ops hops => ?_)
                        unfold Dsts at hops
                        simp (maxSteps:=1000000)(dsimp:=false)(disch:=omega) only [go_sem, Φa, hP, h16_2, h16_9, h16_34, h16_35, h16_36, hops]
                        repeat' ((first | refine And.intro (by omega) ?_ | fail); try (with_reducible refine stI ?_); try simp (maxSteps:=1000000)(dsimp:=false)(disch:=omega) only [go_sem, Φa, hP, h16_2, h16_9, h16_34, h16_35, h16_36, hops])
                        refine hK27 (k + 1, rasN X r, none, v', s', fs ++ [((⟨fa, tookN X r fr, shortB (tookN X r fr)⟩ : Fm), d1)]) _ (some (bR, .cells [.int .i64 (rasN X r).1, .int .i64 (rasN X r).2.1, .bool (rasN X r).2.2.1, .int .i64 (rasN X r).2.2.2].toArray 24 (0, 0)) :: s' :: (nowH none ++ (segs (fs ++ [((⟨fa, tookN X r fr, shortB (tookN X r fr)⟩ : Fm), d1)]) ++ L))) _ (by exact less_fin (fs := fs) (p := ((⟨fa, tookN X r fr, shortB (tookN X r fr)⟩ : Fm), d1))) ?_ ?_
                        · try dsimp only
                          refine ⟨?_, ?_, ?_, ?_, ?_, ?_, ?_, ?_⟩
                          · simp (maxSteps:=1000000)(dsimp:=false)(disch:=omega) only [go_sem, Φa, hP, h16_2, h16_9, h16_34, h16_35, h16_36]
                            first | done | rfl | skip
                          · simp (maxSteps:=1000000)(dsimp:=false)(disch:=omega) only [go_sem, Φa, hP, h16_2, h16_9, h16_34, h16_35, h16_36]
                            first | done | rfl | skip
                          · simp (maxSteps:=1000000)(dsimp:=false)(disch:=omega) only [go_sem, Φa, hP, h16_2, h16_9, h16_34, h16_35, h16_36]
                            first | done | rfl | skip
                          · simp (maxSteps:=1000000)(dsimp:=false)(disch:=omega) only [go_sem, Φa, hP, h16_2, h16_9, h16_34, h16_35, h16_36]
                          · simp (maxSteps:=1000000)(dsimp:=false)(disch:=omega) only [go_sem, Φa, hP, h16_2, h16_9, h16_34, h16_35, h16_36]
                          · simp (maxSteps:=1000000)(dsimp:=false)(disch:=omega) only [go_sem, Φa, hP, h16_2, h16_9, h16_34, h16_35, h16_36]
                          · rfl
                          · refine ⟨by omega, hrow', FsOk.app hfs hd1, fun q hq => (by cases hq), ?_⟩
                            rw [hstep, stF_fin hns1.symm hc98, List.map_append]
                            rfl
                        · (try dsimp only); omega
                      · clear hX49 hY49 X49 Y49
                        refine SX.skip ?_
                        try simp only [noGo_normal, noGo_ret, noGo_exit, andThen_normal, andThen_ret, andThen_exit, inBlk_normal, inBlk_ret, inBlk_exit, Nat.reduceEqDiff, if_true, if_false, ↓reduceIte]
                        refine hK31 _ _ ?_
                        try clear hK31 K31
                        refine SX.region_d [some 113, some 36] rfl (fun ops hops => ?_)
                        unfold Dsts at hops
                        simp (maxSteps:=1000000)(dsimp:=false)(disch:=omega) only [go_sem, Φa, hP, h15_98, h15_2, h15_9, h15_10, h15_34, h15_35, h15_36, hops]
                        repeat' ((first | refine And.intro (by omega) ?_ | fail); try (with_reducible refine stI ?_); try simp (maxSteps:=1000000)(dsimp:=false)(disch:=omega) only [go_sem, Φa, hP, h15_98, h15_2, h15_9, h15_10, h15_34, h15_35, h15_36, hops])
                        refine hK27 (k + 1, rasN X r, some (gp, (⟨fa, tookN X r fr, false⟩, d1)), vo, so, fs) _ (some (bR, .cells [.int .i64 (rasN X r).1, .int .i64 (rasN X r).2.1, .bool (rasN X r).2.2.1, .int .i64 (rasN X r).2.2.2].toArray 24 (0, 0)) :: so :: (nowH (some (gp, (⟨fa, tookN X r fr, false⟩, d1))) ++ (segs fs ++ L))) _ (by exact Less.drops (Less.drop _ _)) ?_ ?_
                        · try dsimp only
                          refine ⟨?_, ?_, ?_, ?_, ?_, ?_, ?_, ?_⟩
                          · simp (maxSteps:=1000000)(dsimp:=false)(disch:=omega) only [go_sem, Φa, hP, h15_98, h15_2, h15_9, h15_10, h15_34, h15_35, h15_36]
                            first | done | rfl | skip
                          · simp (maxSteps:=1000000)(dsimp:=false)(disch:=omega) only [go_sem, Φa, hP, h15_98, h15_2, h15_9, h15_10, h15_34, h15_35, h15_36]
                            first | done | rfl | skip
                          · simp (maxSteps:=1000000)(dsimp:=false)(disch:=omega) only [go_sem, Φa, hP, h15_98, h15_2, h15_9, h15_10, h15_34, h15_35, h15_36]
                            first | done | rfl | skip
                          · simp (maxSteps:=1000000)(dsimp:=false)(disch:=omega) only [go_sem, Φa, hP, h15_98, h15_2, h15_9, h15_10, h15_34, h15_35, h15_36]
                          · simp (maxSteps:=1000000)(dsimp:=false)(disch:=omega) only [go_sem, Φa, hP, h15_98, h15_2, h15_9, h15_10, h15_34, h15_35, h15_36]
                          · simp (maxSteps:=1000000)(dsimp:=false)(disch:=omega) only [go_sem, Φa, hP, h15_98, h15_2, h15_9, h15_10, h15_34, h15_35, h15_36]
                          · rfl
                          · refine ⟨by omega, hrow, hfs, fun q hq => (by cases hq; exact ⟨hd1, rfl⟩), ?_⟩
                            rw [hstep, stF_go hns1.symm hc98]
                            rfl
                        · (try dsimp only); omega
            · clear hX30 hY30 X30 Y30
              refine SX.exit ?_
              try simp only [noGo_normal, noGo_ret, noGo_exit, andThen_normal, andThen_ret, andThen_exit, inBlk_normal, inBlk_ret, inBlk_exit, Nat.reduceEqDiff, if_true, if_false, ↓reduceIte]
              refine hK25 _ _ ?_
              try clear hK25 K25
              refine SX.seq_k fun K52 hK52 => ?_
              refine SX.region_d [some 114, some 4, some 5] rfl (fun ops hops => ?_)
              unfold Dsts at hops
              simp (maxSteps:=1000000)(dsimp:=false)(disch:=omega) only [go_sem, Φa, hP, h5_9, h5_10, h5_36, h5_2, h5_34, h5_35, hops]
              refine hK52 _ _ ?_
              try clear hK52 K52
              refine SX.ret ?_
              simp only [noGo_normal, noGo_ret, noGo_exit, andThen_normal, andThen_ret, andThen_exit, inBlk_normal, inBlk_ret, inBlk_exit, Nat.reduceEqDiff, if_true, if_false, ↓reduceIte, retQ_ret]
              try simp only [res0, res1, res2, res3, stK_e, go_sem, Φa, hP, h5_9, h5_10, h5_36, h5_2, h5_34, h5_35]
              obtain rfl : k = l.length := by omega
              refine ⟨_, _, less_end, rfl, ?_⟩
              have ho := ofP_ok hok hgood
              rw [hst] at ho
              exact ⟨vo, so, fs, by rw [ho], rfl, hrow, hfs, by rw [ho]⟩

end Go.Proofs.YtpakphgeichopaaDoor
set_option linter.unusedVariables false
set_option linter.unusedSimpArgs false
namespace Go.Proofs.YtpakphgeichopaaDoor
open Go.RowKit Go.SX
open Go.SX renaming ia_someH → Φa

def nowR : Option Ff → Hp
  | none => []
  | some p => p.2.seg
def nowRS : Option Ff → Option (Int × List (List Int))
  | none => none
  | some p => some (p.1.at_, p.1.rows)
theorem less_ins2 {a b : Slot} {L : Hp} : Less (a :: b :: L) (a :: b :: none :: L) := (Less.none _).trans (Less.perm ((List.Perm.swap _ _ _).trans (.cons _ (List.Perm.swap _ _ _))))
theorem less_begun2 {q x r o : Slot} {N R : Hp} : Less (q :: x :: r :: o :: (N ++ R)) (x :: r :: o :: (q :: List.replicate 128 none ++ R)) := by
  have h1 : Less (q :: x :: r :: o :: (N ++ R)) (q :: x :: r :: o :: R) := Less.sublist (.cons_cons _ (.cons_cons _ (.cons_cons _ (.cons_cons _ (List.sublist_append_right N R)))))
  refine (h1.trans (Less.nones 128 _)).trans (Less.perm ?_)
  have e1 : (x :: r :: o :: (q :: List.replicate 128 none ++ R) : Hp) = [x, r, o] ++ ([q] ++ (List.replicate 128 none ++ R)) := by simp
  have e2 : (List.replicate 128 none ++ (q :: x :: r :: o :: R) : Hp) = List.replicate 128 none ++ ([q] ++ ([x, r, o] ++ R)) := by simp
  rw [e1, e2]
  have p1 : (List.replicate 128 none ++ ([q] ++ ([x, r, o] ++ R)) : Hp).Perm ([q] ++ ([x, r, o] ++ R) ++ List.replicate 128 none) := List.perm_append_comm
  refine p1.trans ?_
  have p2 : ([q] ++ ([x, r, o] ++ R) : Hp).Perm ([x, r, o] ++ ([q] ++ R)) := by
    rw [← List.append_assoc, ← List.append_assoc]
    exact List.Perm.append_right _ List.perm_append_comm
  refine (p2.append_right _).trans ?_
  rw [List.append_assoc, List.append_assoc]
  refine List.Perm.append_left _ (List.Perm.append_left _ ?_)
  exact List.perm_append_comm
theorem less_fin2 {a b c e s : Slot} {fs : List Ff} {p : Ff} {L : Hp} : Less (a :: b :: c :: e :: s :: (p.2.seg ++ (segs fs ++ L))) (c :: e :: s :: (nowR none ++ (segs (fs ++ [p]) ++ L))) := by
  rw [segs_app, List.append_assoc]
  exact Less.drops (Less.drop _ _)
theorem get5 {a b c d f : Slot} {S R : Hp} {k : Nat} (h : k < S.length) : (a :: b :: c :: d :: f :: (S ++ R))[k + 5]? = some (S.getD k none) := by
  show (S ++ R)[k]? = _
  rw [List.getElem?_append_left h, getD_get (d := Option.none) h]
theorem lessG20 {x n b s : Slot} {d : Fd} {R : Hp} : Less (x :: n :: b :: s :: (d.seg ++ R)) (n :: some (d.g, .cells d.vals.toArray 50 (0, 0)) :: R) := by
  have h : Less (x :: n :: b :: s :: (d.seg ++ R)) (n :: (d.seg ++ R)) := Less.sublist (.cons _ (.cons_cons _ (.cons _ (.cons _ (List.Sublist.refl _)))))
  exact h.trans (Less.sublist (.cons_cons _ (.cons_cons _ (List.sublist_append_right _ _))))
theorem less20 {a b c e s s' : Slot} {d : Fd} {R : Hp} {k : Nat} {V : List Value} (h : k < d.ss.length) : Less (a :: b :: c :: e :: s :: ((d.seg ++ R).set (k + 1) s').set 0 (some (d.g, .cells V.toArray 50 (0, 0)))) (b :: c :: e :: s :: ((Fd.mk d.g V (d.ss.set k s')).seg ++ R)) := by
  rw [seg_set h]
  exact Less.drop _ _
theorem less_end2 {a b s : Slot} {M R : Hp} : Less (a :: b :: s :: (M ++ R)) (s :: R) := Less.drops less_end
theorem refStepR_spec {Γ : Ctx} (hP : Γ.P = Tryd.prog) {L : Hp} {X : Ras} {r : Rc} {ad data : Int} {own pulse : Bool} :
    SCall Γ 20 #[(.agg #[.int .i64 X.1, .int .i64 X.2.1, .bool X.2.2.1, .int .i64 X.2.2.2]), (.agg #[.int .u8 r.code, .int .u16 ad, .bool r.rd, .bool r.wr, .bool own, .int .u8 data, .int .u8 r.port, .bool pulse]), (.int .u8 r.md)] L (fun v L' => v = .agg #[.int .i64 (rasN X r).1, .int .i64 (rasN X r).2.1, .bool (rasN X r).2.2.1, .int .i64 (rasN X r).2.2.2] ∧ L' = L) := refStep_spec hP
theorem refTakesR_spec {Γ : Ctx} (hP : Γ.P = Tryd.prog) {L : Hp} {X : Ras} {r : Rc} {ad data : Int} {own pulse : Bool} :
    SCall Γ 35 #[(.agg #[.int .i64 X.1, .int .i64 X.2.1, .bool X.2.2.1, .int .i64 X.2.2.2]), (.agg #[.int .u8 r.code, .int .u16 ad, .bool r.rd, .bool r.wr, .bool own, .int .u8 data, .int .u8 r.port, .bool pulse])] L (fun v L' => v = .bool (takesN X r) ∧ L' = L) := refTakes_spec hP
set_option maxHeartbeats 1000000 in
set_option maxRecDepth 100000 in
theorem refOf_spec {Γ : Ctx} (hP : Γ.P = Tryd.prog) {L : Hp} {x : Ras} {v : Value} {l : List Rc} (hl : SlC (Cell Γ L) v l) (hlm : l.length ≤ 9000000000000000000) :
    SCall Γ 14 #[(.agg #[.int .i64 x.1, .int .i64 x.2.1, .bool x.2.2.1, .int .i64 x.2.2.2]), v] L (OfR x l L) := by
  obtain ⟨A, c, rfl, hc⟩ := Sl.shape hl
  obtain ⟨a1, e1, _, hA⟩ := Sl.at1 hl
  refine SCall.enter (n := 120) (res2 4 5) (hP ▸ Tryd.func14) rfl rfl (by simp) (res2_ok rfl) ?_
  refine SX.seq_k fun K1 hK1 => ?_
  refine SX.region_d [some 2, some 4, some 5] rfl (fun ops hops => ?_)
  unfold Dsts at hops
  simp (maxSteps:=1000000)(dsimp:=false)(disch:=omega) only [go_sem, Φa, hP, hops]
  intro bR
  try with_reducible refine stI ?_
  try simp (maxSteps:=1000000)(dsimp:=false)(disch:=omega) only [go_sem, Φa, hP, hops]
  refine hK1 _ _ ?_
  try clear hK1 K1
  refine SX.seq_k fun K2 hK2 => ?_
  refine SX.region_d [some 15, some 16, some 6] rfl (fun ops hops => ?_)
  unfold Dsts at hops
  simp (maxSteps:=1000000)(dsimp:=false)(disch:=omega) only [go_sem, Φa, hP, hops]
  refine ⟨_, Cell.at 0 rfl rfl, _, Cell.at 0 rfl rfl, _, Cell.at 0 rfl rfl, _, Cell.at 0 rfl rfl, ?_⟩
  try with_reducible refine stI ?_
  try simp (maxSteps:=1000000)(dsimp:=false)(disch:=omega) only [go_sem, Φa, hP, hops]
  refine SCall.mono (refCheck_spec hP) ?_
  rintro v_ L_ ⟨hv_, hL_⟩
  rw [hv_, hL_]
  clear hv_ hL_ v_ L_
  try with_reducible refine stI ?_
  try simp (maxSteps:=1000000)(dsimp:=false)(disch:=omega) only [go_sem, Φa, hP, hops]
  refine hK2 _ _ ?_
  try clear hK2 K2
  refine SX.seq_k fun K3 hK3 => ?_
  refine SX.seq_k fun K4 hK4 => ?_
  refine SX.region_d [some 17, some 18] rfl (fun ops hops => ?_)
  unfold Dsts at hops
  simp (maxSteps:=1000000)(dsimp:=false)(disch:=omega) only [go_sem, Φa, hP, hops]
  repeat' ((first | refine And.intro (by omega) ?_ | fail); try (with_reducible refine stI ?_); try simp (maxSteps:=1000000)(dsimp:=false)(disch:=omega) only [go_sem, Φa, hP, hops])
  refine hK4 _ _ ?_
  try clear hK4 K4
  refine SX.cond_k fun X5 Y5 hX5 hY5 => ?_
  simp (maxSteps:=1000000)(dsimp:=false)(disch:=omega) only [go_sem, Φa, hP, condVC]
  refine ⟨fun hc18 => hX5 ?_, fun hc18 => hY5 ?_⟩
  · clear hX5 hY5 X5 Y5
    refine SX.seq_k fun K6 hK6 => ?_
    refine SX.region_d [some 19, some 4, some 5] rfl (fun ops hops => ?_)
    unfold Dsts at hops
    simp (maxSteps:=1000000)(dsimp:=false)(disch:=omega) only [go_sem, Φa, hP, hops]
    refine hK6 _ _ ?_
    try clear hK6 K6
    refine SX.ret ?_
    simp only [andThen_normal, andThen_ret, andThen_exit, inBlk_normal, inBlk_ret, inBlk_exit, Nat.reduceEqDiff, if_true, if_false, ↓reduceIte, retQ_ret]
    try simp only [res0, res1, res2, res3, stK_e, go_sem, Φa, hP]
    refine ⟨_, _, (Less.drop _ _).trans (Less.none _), rfl, ?_⟩
    rw [← show (ofP x l).2 = chk x.1 x.2.1 x.2.2.2 by rw [ofP_no hc18]]
    exact OfR.none (by rw [ofP_no hc18])
  · clear hX5 hY5 X5 Y5
    refine SX.skip ?_
    try simp only [andThen_normal, andThen_ret, andThen_exit, inBlk_normal, inBlk_ret, inBlk_exit, Nat.reduceEqDiff, if_true, if_false, ↓reduceIte]
    refine hK3 _ _ ?_
    try clear hK3 K3
    refine SX.seq_k fun K7 hK7 => ?_
    have hok : okR x = true := ok_of (by simpa using hc18)
    refine SX.region_d [some 20, some 21, some 6] rfl (fun ops hops => ?_)
    unfold Dsts at hops
    simp (maxSteps:=1000000)(dsimp:=false)(disch:=omega) only [go_sem, Φa, hP, hops]
    refine SCall.mono (refCheckL_spec hP (SlC.mono (fun a v h => Cell.cons _ h) hl)) ?_
    rintro v_ L_ ⟨hv_, hL_⟩
    rw [hv_, hL_]
    clear hv_ hL_ v_ L_
    try with_reducible refine stI ?_
    try simp (maxSteps:=1000000)(dsimp:=false)(disch:=omega) only [go_sem, Φa, hP, hops]
    refine hK7 _ _ ?_
    try clear hK7 K7
    refine SX.live [1, 2, 6] (fun T1 hT1 => ?_)
    simp only [forall_mem_cons', forall_mem_nil', go_sem, Φa, hP] at hT1
    obtain ⟨h1_1, h1_2, h1_6⟩ := hT1
    refine SX.seq_k fun K8 hK8 => ?_
    refine SX.seq_k fun K9 hK9 => ?_
    refine SX.region_d [some 22, some 23] rfl (fun ops hops => ?_)
    unfold Dsts at hops
    simp (maxSteps:=1000000)(dsimp:=false)(disch:=omega) only [go_sem, Φa, hP, h1_1, h1_2, h1_6, hops]
    repeat' ((first | refine And.intro (by omega) ?_ | fail); try (with_reducible refine stI ?_); try simp (maxSteps:=1000000)(dsimp:=false)(disch:=omega) only [go_sem, Φa, hP, h1_1, h1_2, h1_6, hops])
    refine hK9 _ _ ?_
    try clear hK9 K9
    refine SX.cond_k fun X10 Y10 hX10 hY10 => ?_
    simp (maxSteps:=1000000)(dsimp:=false)(disch:=omega) only [go_sem, Φa, hP, h1_1, h1_2, h1_6, condVC]
    refine ⟨fun hc23 => hX10 ?_, fun hc23 => hY10 ?_⟩
    · clear hX10 hY10 X10 Y10
      refine SX.seq_k fun K11 hK11 => ?_
      refine SX.region_d [some 24, some 4, some 5] rfl (fun ops hops => ?_)
      unfold Dsts at hops
      simp (maxSteps:=1000000)(dsimp:=false)(disch:=omega) only [go_sem, Φa, hP, h1_1, h1_2, h1_6, hops]
      refine hK11 _ _ ?_
      try clear hK11 K11
      refine SX.ret ?_
      simp only [andThen_normal, andThen_ret, andThen_exit, inBlk_normal, inBlk_ret, inBlk_exit, Nat.reduceEqDiff, if_true, if_false, ↓reduceIte, retQ_ret]
      try simp only [res0, res1, res2, res3, stK_e, go_sem, Φa, hP, h1_1, h1_2, h1_6]
      refine ⟨_, _, (Less.drop _ _).trans (Less.none _), rfl, ?_⟩
      have hb := ofP_bad (l := l) hok hc23
      rw [← show (ofP x l).2 = chkL l by rw [hb]]
      exact OfR.none (by rw [hb])
    · clear hX10 hY10 X10 Y10
      refine SX.skip ?_
      try simp only [andThen_normal, andThen_ret, andThen_exit, inBlk_normal, inBlk_ret, inBlk_exit, Nat.reduceEqDiff, if_true, if_false, ↓reduceIte]
      refine hK8 _ _ ?_
      try clear hK8 K8
      refine SX.seq_k fun K12 hK12 => ?_
      have hgood : chkL l = 0 := by simpa using hc23
      obtain ⟨hll, hmay⟩ := chkL_zero hgood
      refine SX.region_d [some 7] rfl (fun ops hops => ?_)
      unfold Dsts at hops
      simp (maxSteps:=1000000)(dsimp:=false)(disch:=omega) only [go_sem, Φa, hP, h1_1, h1_2, h1_6, hops]
      refine hK12 _ _ ?_
      try clear hK12 K12
      refine SX.seq_k fun K13 hK13 => ?_
      refine SX.region_d [some 8] rfl (fun ops hops => ?_)
      unfold Dsts at hops
      simp (maxSteps:=1000000)(dsimp:=false)(disch:=omega) only [go_sem, Φa, hP, h1_1, h1_2, h1_6, hops]
      refine hK13 _ _ ?_
      try clear hK13 K13
      refine SX.seq_k fun K14 hK14 => ?_
      refine SX.region_d [some 25, some 9, none] rfl (fun ops hops => ?_)
      unfold Dsts at hops
      simp (maxSteps:=1000000)(dsimp:=false)(disch:=omega) only [go_sem, Φa, hP, h1_1, h1_2, h1_6, hops]
      intro bN
      try with_reducible refine stI ?_
      try simp (maxSteps:=1000000)(dsimp:=false)(disch:=omega) only [go_sem, Φa, hP, h1_1, h1_2, h1_6, hops]
      refine ⟨0, _, _, _, rfl, by simp, .inr (by decide), ?_⟩
      try with_reducible refine stI ?_
      try simp (maxSteps:=1000000)(dsimp:=false)(disch:=omega) only [go_sem, Φa, hP, h1_1, h1_2, h1_6, hops]
      refine hK14 _ _ ?_
      try clear hK14 K14
      refine SX.seq_k fun K15 hK15 => ?_
      refine SX.seq_k fun K16 hK16 => ?_
      refine SX.less less_ins2 ?_
      refine SX.region_d [some 10] rfl (fun ops hops => ?_)
      unfold Dsts at hops
      simp (maxSteps:=1000000)(dsimp:=false)(disch:=omega) only [go_sem, Φa, hP, h1_1, h1_2, h1_6, hops]
      refine hK16 _ _ ?_
      try clear hK16 K16
      refine SX.block ?_
      refine SX.live [1, 2, 7, 8, 9, 10] (fun T2 hT2 => ?_)
      simp only [forall_mem_cons', forall_mem_nil', go_sem, Φa, hP, h1_1, h1_2, h1_6] at hT2
      obtain ⟨h2_1, h2_2, h2_7, h2_8, h2_9, h2_10⟩ := hT2
      clear h1_1 h1_2 h1_6 T1
      refine SX.loop_k (fun (ss : (Nat) × (Ras) × (Option Ff) × (Int) × (Value) × (Bool) × (Value) × (Slot) × (List Ff)) T L' => (fun (k : Nat) (X : Ras) (nw : Option Ff) (na : Int) (nv : Value) (nb : Bool) (vo : Value) (so : Slot) (fs : List Ff) => T 7 = vo ∧ T 8 = .bool nw.isSome ∧ T 10 = .int .i64 (k : Int) ∧ T 1 = T2 1 ∧ T 2 = T2 2 ∧ T 9 = T2 9 ∧ L' = some (bN, .cells [.int .i64 na, nv, .bool nb].toArray 41 (0, 0)) :: some (bR, .cells [.int .i64 X.1, .int .i64 X.2.1, .bool X.2.2.1, .int .i64 X.2.2.2].toArray 24 (0, 0)) :: so :: (nowR nw ++ (segs fs ++ L)) ∧ (k ≤ l.length ∧ RowF vo fs so ∧ FsOk fs ∧ (∀ p, nw = some p → FdOk p.1.rows p.2 ∧ na = p.1.at_ ∧ nv = p.2.val) ∧ nv.cells.size = 1 ∧ stAt x l k = ⟨X, nowRS nw, fs.map (·.1)⟩)) (ss.1) (ss.2.1) (ss.2.2.1) (ss.2.2.2.1) (ss.2.2.2.2.1) (ss.2.2.2.2.2.1) (ss.2.2.2.2.2.2.1) (ss.2.2.2.2.2.2.2.1) (ss.2.2.2.2.2.2.2.2)) (fun (ss : (Nat) × (Ras) × (Option Ff) × (Int) × (Value) × (Bool) × (Value) × (Slot) × (List Ff)) => (fun (k : Nat) (X : Ras) (nw : Option Ff) (na : Int) (nv : Value) (nb : Bool) (vo : Value) (so : Slot) (fs : List Ff) => l.length - k) (ss.1) (ss.2.1) (ss.2.2.1) (ss.2.2.2.1) (ss.2.2.2.2.1) (ss.2.2.2.2.2.1) (ss.2.2.2.2.2.2.1) (ss.2.2.2.2.2.2.2.1) (ss.2.2.2.2.2.2.2.2)) (0, x, none, 0, .slice none 0 0, false, .slice none 0 0, none, []) ?_ ?_
      · try dsimp only
        refine ⟨?_, ?_, ?_, ?_, ?_, ?_, ?_, ?_⟩
        · first | exact h2_7 | (rw [h2_7]; rfl) | (rw [h2_7]; simp; done)
        · first | exact h2_8 | (rw [h2_8]; rfl) | (rw [h2_8]; simp; done)
        · first | exact h2_10 | (rw [h2_10]; rfl) | (rw [h2_10]; simp; done)
        · rfl
        · rfl
        · rfl
        · rfl
        · exact ⟨Nat.zero_le _, RowL.nil _ _ _, FsOk.nil, fun q hq => (by cases hq), rfl, rfl⟩
      · intro ss T3 L3 hI K17 hK17
        obtain ⟨k, X, nw, na, nv, nb, vo, so, fs⟩ := ss
        try dsimp only at hI hK17
        simp only [h2_1, h2_2, h2_9] at hI hK17
        obtain ⟨h3_7, h3_8, h3_10, h3_1, h3_2, h3_9, hL3, ⟨hk, hrow, hfs, hnw, hnv, hst⟩⟩ := hI
        replace hL3 := hL3.symm
        subst hL3
        clear h2_1 h2_2 h2_7 h2_8 h2_9 h2_10 T2
        refine SX.seq_k fun K18 hK18 => ?_
        refine SX.seq_k fun K19 hK19 => ?_
        refine SX.region_d [some 26, some 27, some 28, some 29] rfl (fun ops hops => ?_)
        unfold Dsts at hops
        simp (maxSteps:=1000000)(dsimp:=false)(disch:=omega) only [go_sem, Φa, hP, h3_7, h3_8, h3_10, h3_1, h3_2, h3_9, hops]
        repeat' ((first | refine And.intro (by omega) ?_ | fail); try (with_reducible refine stI ?_); try simp (maxSteps:=1000000)(dsimp:=false)(disch:=omega) only [go_sem, Φa, hP, h3_7, h3_8, h3_10, h3_1, h3_2, h3_9, hops])
        refine hK19 _ _ ?_
        try clear hK19 K19
        refine SX.cond_k fun X20 Y20 hX20 hY20 => ?_
        simp (maxSteps:=1000000)(dsimp:=false)(disch:=omega) only [go_sem, Φa, hP, h3_7, h3_8, h3_10, h3_1, h3_2, h3_9, condVC]
        refine ⟨fun hc29 => hX20 ?_, fun hc29 => hY20 ?_⟩
        · clear hX20 hY20 X20 Y20
          refine SX.skip ?_
          try simp only [andThen_normal, andThen_ret, andThen_exit, inBlk_normal, inBlk_ret, inBlk_exit, Nat.reduceEqDiff, if_true, if_false, ↓reduceIte]
          refine hK18 _ _ ?_
          try clear hK18 K18
          refine SX.seq_k fun K21 hK21 => ?_
          refine SX.block ?_
          refine SX.live [1, 2, 7, 8, 9, 10] (fun T4 hT4 => ?_)
          simp only [forall_mem_cons', forall_mem_nil', go_sem, Φa, hP, h3_7, h3_8, h3_10, h3_1, h3_2, h3_9] at hT4
          obtain ⟨h4_1, h4_2, h4_7, h4_8, h4_9, h4_10⟩ := hT4
          clear h3_7 h3_8 h3_10 h3_1 h3_2 h3_9 T3
          have hkl : k < l.length := by omega
          have hck0 := hA k _ (getD_get (d := default) hkl)
          have hstep : stAt x l (k + 1) = stF ⟨X, nowRS nw, fs.map (·.1)⟩ k (l.getD k default) := by rw [stAt, hst]
          have hXo : okR X = true := by have := stAt_ok hok hmay k hk; rw [hst] at this; exact this
          have hX := of_okB hXo
          have hcn := (stAt_cnt x l k).1
          rw [hst] at hcn
          have hfl : fs.length ≤ k := by have := stAt_out x l k; rw [hst] at this; simpa using this
          generalize l.getD k default = r at hck0 hstep
          have hck : ∀ i u, (Rc.cells r)[i]? = some u → Cell Γ L ((a1.add (k * 8)).add i) u := hck0
          refine SX.join (fun (ss : (Option Ff) × (Int) × (Value) × (Bool)) T L' => (fun (nw1 : Option Ff) (na1 : Int) (nv1 : Value) (nb1 : Bool) => T 8 = .bool nw1.isSome ∧ T 1 = T4 1 ∧ T 2 = T4 2 ∧ T 7 = T4 7 ∧ T 9 = T4 9 ∧ T 10 = T4 10 ∧ L' = some (bN, .cells [.int .i64 na1, nv1, .bool nb1].toArray 41 (0, 0)) :: some (bR, .cells [.int .i64 X.1, .int .i64 X.2.1, .bool X.2.2.1, .int .i64 X.2.2.2].toArray 24 (0, 0)) :: so :: (nowR nw1 ++ (segs fs ++ L)) ∧ ((∀ p, nw1 = some p → FdOk p.1.rows p.2 ∧ na1 = p.1.at_ ∧ nv1 = p.2.val) ∧ nv1.cells.size = 1 ∧ nowRS nw1 = begunN X (nowRS nw) k)) (ss.1) (ss.2.1) (ss.2.2.1) (ss.2.2.2)) (fun K22 hK22 => ?_) ?_
          · simp only [h4_1, h4_2, h4_7, h4_9, h4_10] at hK22
            refine SX.seq_k fun K23 hK23 => ?_
            refine SX.region_xd [some 32, some 33, some 34, some 35, some 36, some 37, some 38, some 39] rfl (fun ops hops => ?_)
            unfold Dsts at hops
            refine RX.live [1, 2, 7, 8, 9, 10] (fun T5 hT5 => ?_)
            simp only [forall_mem_cons', forall_mem_nil', go_sem, Φa, hP, h4_1, h4_2, h4_7, h4_8, h4_9, h4_10] at hT5
            obtain ⟨h5_1, h5_2, h5_7, h5_8, h5_9, h5_10⟩ := hT5
            clear h4_1 h4_2 h4_7 h4_8 h4_9 h4_10 T4
            refine RX.join 8 (fun (ss : Unit) T L' => T 39 = .bool (atZ X) ∧ T 1 = T5 1 ∧ T 2 = T5 2 ∧ T 7 = T5 7 ∧ T 8 = T5 8 ∧ T 9 = T5 9 ∧ T 10 = T5 10 ∧ L' = some (bN, .cells [.int .i64 na, nv, .bool nb].toArray 41 (0, 0)) :: some (bR, .cells [.int .i64 X.1, .int .i64 X.2.1, .bool X.2.2.1, .int .i64 X.2.2.2].toArray 24 (0, 0)) :: so :: (nowR nw ++ (segs fs ++ L)) ∧ (True)) (fun K24 hK24 => ?_) ?_
            · simp only [h5_1, h5_2, h5_7, h5_8, h5_9, h5_10] at hK24
              simp (maxSteps:=1000000)(dsimp:=false)(disch:=omega) only [go_sem, Φa, hP, h5_1, h5_2, h5_7, h5_8, h5_9, h5_10, hops]
              repeat' (first | refine iteB (fun hg => ?_) (fun hg => ?_) | refine iteI (fun hg => ?_) (fun hg => ?_) | ((first | refine And.intro (by omega) ?_ | refine ⟨_, Cell.at 0 rfl rfl, ?_⟩ | refine ⟨_, Cell.at 1 rfl rfl, ?_⟩ | refine ⟨_, Cell.at 2 rfl rfl, ?_⟩ | fail); try (with_reducible refine stI ?_); try simp (maxSteps:=1000000)(dsimp:=false)(disch:=omega) only [go_sem, Φa, hP, h5_1, h5_2, h5_7, h5_8, h5_9, h5_10, hops]) | fail)
              all_goals
                refine hK24 () _ (some (bN, .cells [.int .i64 na, nv, .bool nb].toArray 41 (0, 0)) :: some (bR, .cells [.int .i64 X.1, .int .i64 X.2.1, .bool X.2.2.1, .int .i64 X.2.2.2].toArray 24 (0, 0)) :: so :: (nowR nw ++ (segs fs ++ L))) _ (by first | exact Less.refl _ | exact Less.drop _ _ | exact Less.drops (Less.drop _ _) | exact Less.drops (Less.drops (Less.drop _ _)) | exact Less.drops (Less.drops (Less.drops (Less.drop _ _))) | exact Less.drops (Less.drops (Less.drops (Less.drops (Less.drop _ _))))) ?_
                try dsimp only
                refine ⟨?_, ?_, ?_, ?_, ?_, ?_, ?_, ?_, ?_⟩
                · simp (maxSteps:=1000000)(dsimp:=false)(disch:=omega) only [go_sem, Φa, hP, h5_1, h5_2, h5_7, h5_8, h5_9, h5_10]
                  first | done | rfl | (refine congrArg Value.bool ?_; unfold atZ; simp_all; done) | (refine congrArg Value.bool ?_; simp_all; done)
                · simp (maxSteps:=1000000)(dsimp:=false)(disch:=omega) only [go_sem, Φa, hP, h5_1, h5_2, h5_7, h5_8, h5_9, h5_10]
                · simp (maxSteps:=1000000)(dsimp:=false)(disch:=omega) only [go_sem, Φa, hP, h5_1, h5_2, h5_7, h5_8, h5_9, h5_10]
                · simp (maxSteps:=1000000)(dsimp:=false)(disch:=omega) only [go_sem, Φa, hP, h5_1, h5_2, h5_7, h5_8, h5_9, h5_10]
                · simp (maxSteps:=1000000)(dsimp:=false)(disch:=omega) only [go_sem, Φa, hP, h5_1, h5_2, h5_7, h5_8, h5_9, h5_10]
                · simp (maxSteps:=1000000)(dsimp:=false)(disch:=omega) only [go_sem, Φa, hP, h5_1, h5_2, h5_7, h5_8, h5_9, h5_10]
                · simp (maxSteps:=1000000)(dsimp:=false)(disch:=omega) only [go_sem, Φa, hP, h5_1, h5_2, h5_7, h5_8, h5_9, h5_10]
                · rfl
                · trivial
            · intro ss T6 L6 hI
              simp only [h5_1, h5_2, h5_7, h5_8, h5_9, h5_10] at hI 
              obtain ⟨h6_39, h6_1, h6_2, h6_7, h6_8, h6_9, h6_10, hL6, hinv⟩ := hI
              replace hL6 := hL6.symm
              subst hL6
              clear h5_1 h5_2 h5_7 h5_8 h5_9 h5_10 T5
              refine RX.done ?_
              simp (maxSteps:=1000000)(dsimp:=false)(disch:=omega) only [go_sem, Φa, hP, h6_39, h6_1, h6_2, h6_7, h6_8, h6_9, h6_10, hops]
              refine hK23 _ _ ?_
              try clear hK23 K23
              refine SX.cond_k fun X25 Y25 hX25 hY25 => ?_
              simp (maxSteps:=1000000)(dsimp:=false)(disch:=omega) only [go_sem, Φa, hP, h6_39, h6_1, h6_2, h6_7, h6_8, h6_9, h6_10, condVC]
              refine ⟨fun hc39 => hX25 ?_, fun hc39 => hY25 ?_⟩
              · clear hX25 hY25 X25 Y25
                refine SX.seq_k fun K26 hK26 => ?_
                refine SX.region_d [some 8] rfl (fun ops hops => ?_)
                unfold Dsts at hops
                simp (maxSteps:=1000000)(dsimp:=false)(disch:=omega) only [go_sem, Φa, hP, h6_39, h6_1, h6_2, h6_7, h6_8, h6_9, h6_10, hops]
                refine hK26 _ _ ?_
                try clear hK26 K26
                refine SX.region_d [some 40, some 41, some 42, none] rfl (fun ops hops => ?_)
                unfold Dsts at hops
                simp (maxSteps:=1000000)(dsimp:=false)(disch:=omega) only [go_sem, Φa, hP, h6_39, h6_1, h6_2, h6_7, h6_8, h6_9, h6_10, hops, hnv]
                intro g15
                try with_reducible refine stI ?_
                try simp (maxSteps:=1000000)(dsimp:=false)(disch:=omega) only [go_sem, Φa, hP, h6_39, h6_1, h6_2, h6_7, h6_8, h6_9, h6_10, hops, hnv]
                rw [zerosV_one]
                try with_reducible refine stI ?_
                try simp (maxSteps:=1000000)(dsimp:=false)(disch:=omega) only [go_sem, Φa, hP, h6_39, h6_1, h6_2, h6_7, h6_8, h6_9, h6_10, hops, hnv]
                refine ⟨1, _, _, _, rfl, by simp, .inr (by decide), ?_⟩
                try with_reducible refine stI ?_
                try simp (maxSteps:=1000000)(dsimp:=false)(disch:=omega) only [go_sem, Φa, hP, h6_39, h6_1, h6_2, h6_7, h6_8, h6_9, h6_10, hops, hnv]
                refine hK22 (some ((⟨(k : Int), List.replicate 128 [], false⟩ : Fm), d0 g15), (k : Int), .slice (some ⟨g15, 0, none⟩) 128 128, false) _ (some (bN, .cells [.int .i64 ((k : Int)), (.slice (some ⟨g15, 0, none⟩) 128 128), .bool false].toArray 41 (0, 0)) :: some (bR, .cells [.int .i64 X.1, .int .i64 X.2.1, .bool X.2.2.1, .int .i64 X.2.2.2].toArray 24 (0, 0)) :: so :: (nowR (some ((⟨(k : Int), List.replicate 128 [], false⟩ : Fm), d0 g15)) ++ (segs fs ++ L))) _ (by exact less_begun2) ?_
                try dsimp only
                refine ⟨?_, ?_, ?_, ?_, ?_, ?_, ?_, ?_⟩
                · simp (maxSteps:=1000000)(dsimp:=false)(disch:=omega) only [go_sem, Φa, hP, h6_39, h6_1, h6_2, h6_7, h6_8, h6_9, h6_10]
                  first | done | rfl | skip
                · simp (maxSteps:=1000000)(dsimp:=false)(disch:=omega) only [go_sem, Φa, hP, h6_39, h6_1, h6_2, h6_7, h6_8, h6_9, h6_10]
                · simp (maxSteps:=1000000)(dsimp:=false)(disch:=omega) only [go_sem, Φa, hP, h6_39, h6_1, h6_2, h6_7, h6_8, h6_9, h6_10]
                · simp (maxSteps:=1000000)(dsimp:=false)(disch:=omega) only [go_sem, Φa, hP, h6_39, h6_1, h6_2, h6_7, h6_8, h6_9, h6_10]
                · simp (maxSteps:=1000000)(dsimp:=false)(disch:=omega) only [go_sem, Φa, hP, h6_39, h6_1, h6_2, h6_7, h6_8, h6_9, h6_10]
                · simp (maxSteps:=1000000)(dsimp:=false)(disch:=omega) only [go_sem, Φa, hP, h6_39, h6_1, h6_2, h6_7, h6_8, h6_9, h6_10]
                · rfl
                · refine ⟨fun q hq => ?_, rfl, ?_⟩
                  · cases hq; exact ⟨FdOk.start g15, rfl, rfl⟩
                  · rw [begunN, if_pos hc39]; rfl
              · clear hX25 hY25 X25 Y25
                refine SX.skip ?_
                try simp only [andThen_normal, andThen_ret, andThen_exit, inBlk_normal, inBlk_ret, inBlk_exit, Nat.reduceEqDiff, if_true, if_false, ↓reduceIte]
                refine hK22 (nw, na, nv, nb) _ (some (bN, .cells [.int .i64 na, nv, .bool nb].toArray 41 (0, 0)) :: some (bR, .cells [.int .i64 X.1, .int .i64 X.2.1, .bool X.2.2.1, .int .i64 X.2.2.2].toArray 24 (0, 0)) :: so :: (nowR nw ++ (segs fs ++ L))) _ (by exact Less.refl _) ?_
                try dsimp only
                refine ⟨?_, ?_, ?_, ?_, ?_, ?_, ?_, ?_⟩
                · simp (maxSteps:=1000000)(dsimp:=false)(disch:=omega) only [go_sem, Φa, hP, h6_39, h6_1, h6_2, h6_7, h6_8, h6_9, h6_10]
                  first | done | rfl | skip
                · simp (maxSteps:=1000000)(dsimp:=false)(disch:=omega) only [go_sem, Φa, hP, h6_39, h6_1, h6_2, h6_7, h6_8, h6_9, h6_10]
                · simp (maxSteps:=1000000)(dsimp:=false)(disch:=omega) only [go_sem, Φa, hP, h6_39, h6_1, h6_2, h6_7, h6_8, h6_9, h6_10]
                · simp (maxSteps:=1000000)(dsimp:=false)(disch:=omega) only [go_sem, Φa, hP, h6_39, h6_1, h6_2, h6_7, h6_8, h6_9, h6_10]
                · simp (maxSteps:=1000000)(dsimp:=false)(disch:=omega) only [go_sem, Φa, hP, h6_39, h6_1, h6_2, h6_7, h6_8, h6_9, h6_10]
                · simp (maxSteps:=1000000)(dsimp:=false)(disch:=omega) only [go_sem, Φa, hP, h6_39, h6_1, h6_2, h6_7, h6_8, h6_9, h6_10]
                · rfl
                · exact ⟨hnw, hnv, by rw [begunN, if_neg (by rw [hc39]; exact Bool.false_ne_true)]⟩
          · intro ss T7 L7 hI
            obtain ⟨nw1, na1, nv1, nb1⟩ := ss
            try dsimp only at hI 
            simp only [h4_1, h4_2, h4_7, h4_9, h4_10] at hI 
            obtain ⟨h7_8, h7_1, h7_2, h7_7, h7_9, h7_10, hL7, ⟨hnk1, hnv1, hns1⟩⟩ := hI
            replace hL7 := hL7.symm
            subst hL7
            clear h4_1 h4_2 h4_7 h4_8 h4_9 h4_10 T4
            refine SX.seq_k fun K27 hK27 => ?_
            refine SX.drawn_d [(0, .q), (1, .q), (2, .q), (3, .q), (4, .q), (5, .q), (6, .q), (7, .q), (8, .q), (9, .q), (10, .q), (11, .q), (12, .q), (13, .q), (14, .q), (15, .q), (16, .q), (17, .q), (18, .q), (19, .q), (20, .q), (21, .e), (22, .t)] (fun L => L) (hP ▸ T.mixed) (by kernel_rfl) (by exact Less.refl _) [some 43, some 44, some 45, some 46, some 47, some 48, some 49, some 50, some 51, some 52, some 53, some 54, some 55, some 56, some 57, some 58, some 59, some 60, some 61, some 62, some 63, some 11, none] rfl (fun ops hops hopl => ?_)
            unfold Dsts at hops
            simp (maxSteps:=1000000)(dsimp:=false)(disch:=omega) only [go_sem, Φa, hP, h7_8, h7_1, h7_2, h7_7, h7_9, h7_10, hops, hopl, ia_at e1]
            refine ⟨_, Cell.cons _ (Cell.cons _ (Cell.cons _ (Cell.app _ (Cell.app _ (hck 0 _ rfl))))), ?_⟩
            try with_reducible refine stI ?_
            try simp (maxSteps:=1000000)(dsimp:=false)(disch:=omega) only [go_sem, Φa, hP, h7_8, h7_1, h7_2, h7_7, h7_9, h7_10, hops, hopl, ia_at e1]
            refine ⟨_, Cell.cons _ (Cell.cons _ (Cell.cons _ (Cell.app _ (Cell.app _ (hck 3 _ rfl))))), ?_⟩
            try with_reducible refine stI ?_
            try simp (maxSteps:=1000000)(dsimp:=false)(disch:=omega) only [go_sem, Φa, hP, h7_8, h7_1, h7_2, h7_7, h7_9, h7_10, hops, hopl, ia_at e1]
            refine ⟨_, Cell.cons _ (Cell.cons _ (Cell.cons _ (Cell.app _ (Cell.app _ (hck 4 _ rfl))))), ?_⟩
            try with_reducible refine stI ?_
            try simp (maxSteps:=1000000)(dsimp:=false)(disch:=omega) only [go_sem, Φa, hP, h7_8, h7_1, h7_2, h7_7, h7_9, h7_10, hops, hopl, ia_at e1]
            refine ⟨_, Cell.cons _ (Cell.cons _ (Cell.cons _ (Cell.app _ (Cell.app _ (hck 5 _ rfl))))), ?_⟩
            try with_reducible refine stI ?_
            try simp (maxSteps:=1000000)(dsimp:=false)(disch:=omega) only [go_sem, Φa, hP, h7_8, h7_1, h7_2, h7_7, h7_9, h7_10, hops, hopl, ia_at e1]
            intro g16
            try with_reducible refine stI ?_
            try simp (maxSteps:=1000000)(dsimp:=false)(disch:=omega) only [go_sem, Φa, hP, h7_8, h7_1, h7_2, h7_7, h7_9, h7_10, hops, hopl, ia_at e1]
            refine ⟨0, _, _, _, rfl, (by simp), .inr (by decide), ?_⟩
            try with_reducible refine stI ?_
            try simp (maxSteps:=1000000)(dsimp:=false)(disch:=omega) only [go_sem, Φa, hP, h7_8, h7_1, h7_2, h7_7, h7_9, h7_10, hops, hopl, ia_at e1]
            refine hK27 _ _ ?_
            try clear hK27 K27
            refine SX.live [1, 2, 7, 8, 9, 10, 11] (fun T8 hT8 => ?_)
            simp only [forall_mem_cons', forall_mem_nil', go_sem, Φa, hP, h7_8, h7_1, h7_2, h7_7, h7_9, h7_10] at hT8
            obtain ⟨h8_1, h8_2, h8_7, h8_8, h8_9, h8_10, h8_11⟩ := hT8
            clear h7_8 h7_1 h7_2 h7_7 h7_9 h7_10 T7
            refine SX.seq_k fun K28 hK28 => ?_
            refine SX.region_d [some 64, some 65, some 66, some 12] rfl (fun ops hops => ?_)
            unfold Dsts at hops
            simp (maxSteps:=1000000)(dsimp:=false)(disch:=omega) only [go_sem, Φa, hP, h8_1, h8_2, h8_7, h8_8, h8_9, h8_10, h8_11, hops]
            refine ⟨_, Cell.at 2 rfl rfl, _, Cell.at 2 rfl rfl, _, Cell.at 2 rfl rfl, _, Cell.at 2 rfl rfl, ?_⟩
            try with_reducible refine stI ?_
            try simp (maxSteps:=1000000)(dsimp:=false)(disch:=omega) only [go_sem, Φa, hP, h8_1, h8_2, h8_7, h8_8, h8_9, h8_10, h8_11, hops]
            refine ⟨_, Cell.at 0 rfl rfl, _, Cell.at 0 rfl rfl, _, Cell.at 0 rfl rfl, _, Cell.at 0 rfl rfl, _, Cell.at 0 rfl rfl, _, Cell.at 0 rfl rfl, _, Cell.at 0 rfl rfl, _, Cell.at 0 rfl rfl, ?_⟩
            try with_reducible refine stI ?_
            try simp (maxSteps:=1000000)(dsimp:=false)(disch:=omega) only [go_sem, Φa, hP, h8_1, h8_2, h8_7, h8_8, h8_9, h8_10, h8_11, hops]
            refine SCall.mono (refTakesR_spec hP) ?_
            rintro v_ L_ ⟨hv_, hL_⟩
            rw [hv_, hL_]
            clear hv_ hL_ v_ L_
            try with_reducible refine stI ?_
            try simp (maxSteps:=1000000)(dsimp:=false)(disch:=omega) only [go_sem, Φa, hP, h8_1, h8_2, h8_7, h8_8, h8_9, h8_10, h8_11, hops]
            rcases nw1 with _ | ⟨⟨fa, fr, fsh⟩, d⟩
            · skip
              try with_reducible refine stI ?_
              simp only [nowR, List.nil_append] at *
              try with_reducible refine stI ?_
              try simp (maxSteps:=1000000)(dsimp:=false)(disch:=omega) only [go_sem, Φa, hP, h8_1, h8_2, h8_7, h8_8, h8_9, h8_10, h8_11, hops]
              refine hK28 _ _ ?_
              try clear hK28 K28
              refine SX.live [1, 2, 7, 8, 9, 10, 11, 12] (fun T9 hT9 => ?_)
              simp only [forall_mem_cons', forall_mem_nil', go_sem, Φa, hP, h8_1, h8_2, h8_7, h8_8, h8_9, h8_10, h8_11] at hT9
              obtain ⟨h9_1, h9_2, h9_7, h9_8, h9_9, h9_10, h9_11, h9_12⟩ := hT9
              clear h8_1 h8_2 h8_7 h8_8 h8_9 h8_10 h8_11 T8
              refine SX.join (fun (ss : Unit) T L' => T 1 = T9 1 ∧ T 2 = T9 2 ∧ T 7 = T9 7 ∧ T 8 = T9 8 ∧ T 9 = T9 9 ∧ T 10 = T9 10 ∧ T 11 = T9 11 ∧ L' = some (g16, .cells [.int .u8 r.code, .int .u16 0, .bool r.rd, .bool r.wr, .bool false, .int .u8 0, .int .u8 r.port, .bool false].toArray 49 (0, 0)) :: some (bN, .cells [.int .i64 na1, nv1, .bool nb1].toArray 41 (0, 0)) :: some (bR, .cells [.int .i64 X.1, .int .i64 X.2.1, .bool X.2.2.1, .int .i64 X.2.2.2].toArray 24 (0, 0)) :: so :: (segs fs ++ L) ∧ (True)) (fun K29 hK29 => ?_) ?_
              · simp only [h9_1, h9_2, h9_7, h9_8, h9_9, h9_10, h9_11] at hK29
                refine SX.seq_k fun K30 hK30 => ?_
                refine SX.region_xd [some 67, some 68, some 69, some 70] rfl (fun ops hops => ?_)
                unfold Dsts at hops
                refine RX.live [1, 2, 7, 8, 9, 10, 11, 12] (fun T10 hT10 => ?_)
                simp only [forall_mem_cons', forall_mem_nil', go_sem, Φa, hP, h9_1, h9_2, h9_7, h9_8, h9_9, h9_10, h9_11, h9_12] at hT10
                obtain ⟨h10_1, h10_2, h10_7, h10_8, h10_9, h10_10, h10_11, h10_12⟩ := hT10
                clear h9_1 h9_2 h9_7 h9_8 h9_9 h9_10 h9_11 h9_12 T9
                refine RX.join 4 (fun (ss : Unit) T L' => T 70 = .bool (false) ∧ T 1 = T10 1 ∧ T 2 = T10 2 ∧ T 7 = T10 7 ∧ T 8 = T10 8 ∧ T 9 = T10 9 ∧ T 10 = T10 10 ∧ T 11 = T10 11 ∧ L' = some (g16, .cells [.int .u8 r.code, .int .u16 0, .bool r.rd, .bool r.wr, .bool false, .int .u8 0, .int .u8 r.port, .bool false].toArray 49 (0, 0)) :: some (bN, .cells [.int .i64 na1, nv1, .bool nb1].toArray 41 (0, 0)) :: some (bR, .cells [.int .i64 X.1, .int .i64 X.2.1, .bool X.2.2.1, .int .i64 X.2.2.2].toArray 24 (0, 0)) :: so :: (segs fs ++ L) ∧ (True)) (fun K31 hK31 => ?_) ?_
                · simp only [h10_1, h10_2, h10_7, h10_8, h10_9, h10_10, h10_11] at hK31
                  simp (maxSteps:=1000000)(dsimp:=false)(disch:=omega) only [go_sem, Φa, hP, h10_1, h10_2, h10_7, h10_8, h10_9, h10_10, h10_11, h10_12, hops]
                  repeat' (first | refine iteB (fun hg => ?_) (fun hg => ?_) | refine iteI (fun hg => ?_) (fun hg => ?_) | ((first | refine And.intro (by omega) ?_ | refine ⟨_, Cell.at 0 rfl rfl, ?_⟩ | refine ⟨_, Cell.at 1 rfl rfl, ?_⟩ | refine ⟨_, Cell.at 2 rfl rfl, ?_⟩ | refine ⟨_, Cell.at 3 rfl rfl, ?_⟩ | fail); try (with_reducible refine stI ?_); try simp (maxSteps:=1000000)(dsimp:=false)(disch:=omega) only [go_sem, Φa, hP, h10_1, h10_2, h10_7, h10_8, h10_9, h10_10, h10_11, h10_12, hops]) | fail)
                  all_goals
                    refine hK31 () _ (some (g16, .cells [.int .u8 r.code, .int .u16 0, .bool r.rd, .bool r.wr, .bool false, .int .u8 0, .int .u8 r.port, .bool false].toArray 49 (0, 0)) :: some (bN, .cells [.int .i64 na1, nv1, .bool nb1].toArray 41 (0, 0)) :: some (bR, .cells [.int .i64 X.1, .int .i64 X.2.1, .bool X.2.2.1, .int .i64 X.2.2.2].toArray 24 (0, 0)) :: so :: (segs fs ++ L)) _ (by first | exact Less.refl _ | exact Less.drop _ _ | exact Less.drops (Less.drop _ _) | exact Less.drops (Less.drops (Less.drop _ _)) | exact Less.drops (Less.drops (Less.drops (Less.drop _ _))) | exact Less.drops (Less.drops (Less.drops (Less.drops (Less.drop _ _))))) ?_
                    try dsimp only
                    refine ⟨?_, ?_, ?_, ?_, ?_, ?_, ?_, ?_, ?_, ?_⟩
                    · simp (maxSteps:=1000000)(dsimp:=false)(disch:=omega) only [go_sem, Φa, hP, h10_1, h10_2, h10_7, h10_8, h10_9, h10_10, h10_11, h10_12]
                      first | done | rfl | (refine congrArg Value.bool ?_; unfold atZ; simp_all; done) | (refine congrArg Value.bool ?_; simp_all; done)
                    · simp (maxSteps:=1000000)(dsimp:=false)(disch:=omega) only [go_sem, Φa, hP, h10_1, h10_2, h10_7, h10_8, h10_9, h10_10, h10_11, h10_12]
                    · simp (maxSteps:=1000000)(dsimp:=false)(disch:=omega) only [go_sem, Φa, hP, h10_1, h10_2, h10_7, h10_8, h10_9, h10_10, h10_11, h10_12]
                    · simp (maxSteps:=1000000)(dsimp:=false)(disch:=omega) only [go_sem, Φa, hP, h10_1, h10_2, h10_7, h10_8, h10_9, h10_10, h10_11, h10_12]
                    · simp (maxSteps:=1000000)(dsimp:=false)(disch:=omega) only [go_sem, Φa, hP, h10_1, h10_2, h10_7, h10_8, h10_9, h10_10, h10_11, h10_12]
                    · simp (maxSteps:=1000000)(dsimp:=false)(disch:=omega) only [go_sem, Φa, hP, h10_1, h10_2, h10_7, h10_8, h10_9, h10_10, h10_11, h10_12]
                    · simp (maxSteps:=1000000)(dsimp:=false)(disch:=omega) only [go_sem, Φa, hP, h10_1, h10_2, h10_7, h10_8, h10_9, h10_10, h10_11, h10_12]
                    · simp (maxSteps:=1000000)(dsimp:=false)(disch:=omega) only [go_sem, Φa, hP, h10_1, h10_2, h10_7, h10_8, h10_9, h10_10, h10_11, h10_12]
                    · rfl
                    · trivial
                · intro ss T11 L11 hI
                  simp only [h10_1, h10_2, h10_7, h10_8, h10_9, h10_10, h10_11] at hI 
                  obtain ⟨h11_70, h11_1, h11_2, h11_7, h11_8, h11_9, h11_10, h11_11, hL11, hinv⟩ := hI
                  replace hL11 := hL11.symm
                  subst hL11
                  clear h10_1 h10_2 h10_7 h10_8 h10_9 h10_10 h10_11 h10_12 T10
                  refine RX.done ?_
                  simp (maxSteps:=1000000)(dsimp:=false)(disch:=omega) only [go_sem, Φa, hP, h11_70, h11_1, h11_2, h11_7, h11_8, h11_9, h11_10, h11_11, hops]
                  refine hK30 _ _ ?_
                  try clear hK30 K30
                  refine SX.cond_k fun X32 Y32 hX32 hY32 => ?_
                  simp (maxSteps:=1000000)(dsimp:=false)(disch:=omega) only [go_sem, Φa, hP, h11_70, h11_1, h11_2, h11_7, h11_8, h11_9, h11_10, h11_11, condVC]
                  refine hY32 ?_
                  clear hX32 hY32 X32 Y32
                  refine SX.skip ?_
                  try simp only [andThen_normal, andThen_ret, andThen_exit, inBlk_normal, inBlk_ret, inBlk_exit, Nat.reduceEqDiff, if_true, if_false, ↓reduceIte]
                  refine hK29 () _ (some (g16, .cells [.int .u8 r.code, .int .u16 0, .bool r.rd, .bool r.wr, .bool false, .int .u8 0, .int .u8 r.port, .bool false].toArray 49 (0, 0)) :: some (bN, .cells [.int .i64 na1, nv1, .bool nb1].toArray 41 (0, 0)) :: some (bR, .cells [.int .i64 X.1, .int .i64 X.2.1, .bool X.2.2.1, .int .i64 X.2.2.2].toArray 24 (0, 0)) :: so :: (segs fs ++ L)) _ (by first | exact Less.refl _ | exact Less.drop _ _ | exact Less.drops (Less.drop _ _) | exact Less.drops (Less.drops (Less.drop _ _)) | exact Less.drops (Less.drops (Less.drops (Less.drop _ _))) | exact Less.drops (Less.drops (Less.drops (Less.drops (Less.drop _ _))))) ?_
                  try dsimp only
                  refine ⟨?_, ?_, ?_, ?_, ?_, ?_, ?_, ?_, ?_⟩
                  · simp (maxSteps:=1000000)(dsimp:=false)(disch:=omega) only [go_sem, Φa, hP, h11_70, h11_1, h11_2, h11_7, h11_8, h11_9, h11_10, h11_11]
                  · simp (maxSteps:=1000000)(dsimp:=false)(disch:=omega) only [go_sem, Φa, hP, h11_70, h11_1, h11_2, h11_7, h11_8, h11_9, h11_10, h11_11]
                  · simp (maxSteps:=1000000)(dsimp:=false)(disch:=omega) only [go_sem, Φa, hP, h11_70, h11_1, h11_2, h11_7, h11_8, h11_9, h11_10, h11_11]
                  · simp (maxSteps:=1000000)(dsimp:=false)(disch:=omega) only [go_sem, Φa, hP, h11_70, h11_1, h11_2, h11_7, h11_8, h11_9, h11_10, h11_11]
                  · simp (maxSteps:=1000000)(dsimp:=false)(disch:=omega) only [go_sem, Φa, hP, h11_70, h11_1, h11_2, h11_7, h11_8, h11_9, h11_10, h11_11]
                  · simp (maxSteps:=1000000)(dsimp:=false)(disch:=omega) only [go_sem, Φa, hP, h11_70, h11_1, h11_2, h11_7, h11_8, h11_9, h11_10, h11_11]
                  · simp (maxSteps:=1000000)(dsimp:=false)(disch:=omega) only [go_sem, Φa, hP, h11_70, h11_1, h11_2, h11_7, h11_8, h11_9, h11_10, h11_11]
                  · rfl
                  · trivial
              · intro ss T12 L12 hI
                simp only [h9_1, h9_2, h9_7, h9_8, h9_9, h9_10, h9_11] at hI 
                obtain ⟨h12_1, h12_2, h12_7, h12_8, h12_9, h12_10, h12_11, hL12, hinv⟩ := hI
                replace hL12 := hL12.symm
                subst hL12
                clear h9_1 h9_2 h9_7 h9_8 h9_9 h9_10 h9_11 h9_12 T9
                refine SX.seq_k fun K33 hK33 => ?_
                refine SX.drawn_d [(0, .q), (1, .q), (2, .q), (3, .q), (4, .q), (5, .q), (6, .q), (7, .e), (8, .t)] (fun L => L) (hP ▸ T.mixed) (by kernel_rfl) (by exact Less.refl _) [some 90, some 91, some 92, some 93, some 94, some 95, some 96, some 97, none] rfl (fun ops hops hopl => ?_)
                unfold Dsts at hops
                simp (maxSteps:=1000000)(dsimp:=false)(disch:=omega) only [go_sem, Φa, hP, h12_1, h12_2, h12_7, h12_8, h12_9, h12_10, h12_11, hops, hopl, ia_at e1]
                refine ⟨_, Cell.at 2 rfl rfl, _, Cell.at 2 rfl rfl, _, Cell.at 2 rfl rfl, _, Cell.at 2 rfl rfl, ?_⟩
                try with_reducible refine stI ?_
                try simp (maxSteps:=1000000)(dsimp:=false)(disch:=omega) only [go_sem, Φa, hP, h12_1, h12_2, h12_7, h12_8, h12_9, h12_10, h12_11, hops, hopl, ia_at e1]
                refine ⟨_, Cell.at 0 rfl rfl, _, Cell.at 0 rfl rfl, _, Cell.at 0 rfl rfl, _, Cell.at 0 rfl rfl, _, Cell.at 0 rfl rfl, _, Cell.at 0 rfl rfl, _, Cell.at 0 rfl rfl, _, Cell.at 0 rfl rfl, ?_⟩
                try with_reducible refine stI ?_
                try simp (maxSteps:=1000000)(dsimp:=false)(disch:=omega) only [go_sem, Φa, hP, h12_1, h12_2, h12_7, h12_8, h12_9, h12_10, h12_11, hops, hopl, ia_at e1]
                refine ⟨_, Cell.cons _ (Cell.cons _ (Cell.cons _ (Cell.cons _ (Cell.app _ (hck 7 _ rfl))))), ?_⟩
                try with_reducible refine stI ?_
                try simp (maxSteps:=1000000)(dsimp:=false)(disch:=omega) only [go_sem, Φa, hP, h12_1, h12_2, h12_7, h12_8, h12_9, h12_10, h12_11, hops, hopl, ia_at e1]
                refine SCall.mono (refStepR_spec hP) ?_
                rintro v_ L_ ⟨hv_, hL_⟩
                rw [hv_, hL_]
                clear hv_ hL_ v_ L_
                try with_reducible refine stI ?_
                try simp (maxSteps:=1000000)(dsimp:=false)(disch:=omega) only [go_sem, Φa, hP, h12_1, h12_2, h12_7, h12_8, h12_9, h12_10, h12_11, hops, hopl, ia_at e1]
                refine ⟨2, _, _, _, rfl, by simp, .inr (by decide), ?_⟩
                try with_reducible refine stI ?_
                try simp (maxSteps:=1000000)(dsimp:=false)(disch:=omega) only [go_sem, Φa, hP, h12_1, h12_2, h12_7, h12_8, h12_9, h12_10, h12_11, hops, hopl, ia_at e1]
                refine hK33 _ _ ?_
                try clear hK33 K33
                refine SX.seq_k fun K34 hK34 => ?_
                refine SX.region_xd [some 98, some 99, some 100, some 101, some 102, some 103, some 104, some 105, some 106, some 107, some 108] rfl (fun ops hops => ?_)
                unfold Dsts at hops
                refine RX.live [1, 2, 7, 8, 9, 10] (fun T13 hT13 => ?_)
                simp only [forall_mem_cons', forall_mem_nil', go_sem, Φa, hP, h12_1, h12_2, h12_7, h12_8, h12_9, h12_10, h12_11] at hT13
                obtain ⟨h13_1, h13_2, h13_7, h13_8, h13_9, h13_10⟩ := hT13
                clear h12_1 h12_2 h12_7 h12_8 h12_9 h12_10 h12_11 T12
                refine RX.join 6 (fun (ss : Unit) T L' => T 103 = .bool (false) ∧ T 1 = T13 1 ∧ T 2 = T13 2 ∧ T 7 = T13 7 ∧ T 8 = T13 8 ∧ T 9 = T13 9 ∧ T 10 = T13 10 ∧ L' = some (g16, .cells [.int .u8 r.code, .int .u16 0, .bool r.rd, .bool r.wr, .bool false, .int .u8 0, .int .u8 r.port, .bool false].toArray 49 (0, 0)) :: some (bN, .cells [.int .i64 na1, nv1, .bool nb1].toArray 41 (0, 0)) :: some (bR, .cells [.int .i64 (rasN X r).1, .int .i64 (rasN X r).2.1, .bool (rasN X r).2.2.1, .int .i64 (rasN X r).2.2.2].toArray 24 (0, 0)) :: so :: (segs fs ++ L) ∧ (True)) (fun K35 hK35 => ?_) ?_
                · simp only [h13_1, h13_2, h13_7, h13_8, h13_9, h13_10] at hK35
                  simp (maxSteps:=1000000)(dsimp:=false)(disch:=omega) only [go_sem, Φa, hP, h13_1, h13_2, h13_7, h13_8, h13_9, h13_10, hops]
                  repeat' (first | refine iteB (fun hg => ?_) (fun hg => ?_) | refine iteI (fun hg => ?_) (fun hg => ?_) | ((first | refine And.intro (by omega) ?_ | refine ⟨_, Cell.at 0 rfl rfl, ?_⟩ | refine ⟨_, Cell.at 1 rfl rfl, ?_⟩ | refine ⟨_, Cell.at 2 rfl rfl, ?_⟩ | refine ⟨_, Cell.at 3 rfl rfl, ?_⟩ | fail); try (with_reducible refine stI ?_); try simp (maxSteps:=1000000)(dsimp:=false)(disch:=omega) only [go_sem, Φa, hP, h13_1, h13_2, h13_7, h13_8, h13_9, h13_10, hops]) | fail)
                  all_goals
                    refine hK35 () _ (some (g16, .cells [.int .u8 r.code, .int .u16 0, .bool r.rd, .bool r.wr, .bool false, .int .u8 0, .int .u8 r.port, .bool false].toArray 49 (0, 0)) :: some (bN, .cells [.int .i64 na1, nv1, .bool nb1].toArray 41 (0, 0)) :: some (bR, .cells [.int .i64 (rasN X r).1, .int .i64 (rasN X r).2.1, .bool (rasN X r).2.2.1, .int .i64 (rasN X r).2.2.2].toArray 24 (0, 0)) :: so :: (segs fs ++ L)) _ (by first | exact Less.refl _ | exact Less.drop _ _ | exact Less.drops (Less.drop _ _) | exact Less.drops (Less.drops (Less.drop _ _)) | exact Less.drops (Less.drops (Less.drops (Less.drop _ _))) | exact Less.drops (Less.drops (Less.drops (Less.drops (Less.drop _ _))))) ?_
                    try dsimp only
                    refine ⟨?_, ?_, ?_, ?_, ?_, ?_, ?_, ?_, ?_⟩
                    · simp (maxSteps:=1000000)(dsimp:=false)(disch:=omega) only [go_sem, Φa, hP, h13_1, h13_2, h13_7, h13_8, h13_9, h13_10]
                      first | done | rfl | (refine congrArg Value.bool ?_; unfold atZ; simp_all; done) | (refine congrArg Value.bool ?_; simp_all; done)
                    · simp (maxSteps:=1000000)(dsimp:=false)(disch:=omega) only [go_sem, Φa, hP, h13_1, h13_2, h13_7, h13_8, h13_9, h13_10]
                    · simp (maxSteps:=1000000)(dsimp:=false)(disch:=omega) only [go_sem, Φa, hP, h13_1, h13_2, h13_7, h13_8, h13_9, h13_10]
                    · simp (maxSteps:=1000000)(dsimp:=false)(disch:=omega) only [go_sem, Φa, hP, h13_1, h13_2, h13_7, h13_8, h13_9, h13_10]
                    · simp (maxSteps:=1000000)(dsimp:=false)(disch:=omega) only [go_sem, Φa, hP, h13_1, h13_2, h13_7, h13_8, h13_9, h13_10]
                    · simp (maxSteps:=1000000)(dsimp:=false)(disch:=omega) only [go_sem, Φa, hP, h13_1, h13_2, h13_7, h13_8, h13_9, h13_10]
                    · simp (maxSteps:=1000000)(dsimp:=false)(disch:=omega) only [go_sem, Φa, hP, h13_1, h13_2, h13_7, h13_8, h13_9, h13_10]
                    · rfl
                    · trivial
                · intro ss T14 L14 hI
                  simp only [h13_1, h13_2, h13_7, h13_8, h13_9, h13_10] at hI 
                  obtain ⟨h14_103, h14_1, h14_2, h14_7, h14_8, h14_9, h14_10, hL14, hinv⟩ := hI
                  replace hL14 := hL14.symm
                  subst hL14
                  clear h13_1 h13_2 h13_7 h13_8 h13_9 h13_10 T13
                  refine RX.live [1, 2, 7, 8, 9, 10, 103] (fun T15 hT15 => ?_)
                  simp only [forall_mem_cons', forall_mem_nil', go_sem, Φa, hP, h14_103, h14_1, h14_2, h14_7, h14_8, h14_9, h14_10] at hT15
                  obtain ⟨h15_1, h15_2, h15_7, h15_8, h15_9, h15_10, h15_103⟩ := hT15
                  clear h14_103 h14_1 h14_2 h14_7 h14_8 h14_9 h14_10 T14
                  refine RX.join 5 (fun (ss : Unit) T L' => T 108 = .bool (false) ∧ T 1 = T15 1 ∧ T 2 = T15 2 ∧ T 7 = T15 7 ∧ T 8 = T15 8 ∧ T 9 = T15 9 ∧ T 10 = T15 10 ∧ L' = some (g16, .cells [.int .u8 r.code, .int .u16 0, .bool r.rd, .bool r.wr, .bool false, .int .u8 0, .int .u8 r.port, .bool false].toArray 49 (0, 0)) :: some (bN, .cells [.int .i64 na1, nv1, .bool nb1].toArray 41 (0, 0)) :: some (bR, .cells [.int .i64 (rasN X r).1, .int .i64 (rasN X r).2.1, .bool (rasN X r).2.2.1, .int .i64 (rasN X r).2.2.2].toArray 24 (0, 0)) :: so :: (segs fs ++ L) ∧ (True)) (fun K36 hK36 => ?_) ?_
                  · simp only [h15_1, h15_2, h15_7, h15_8, h15_9, h15_10] at hK36
                    simp (maxSteps:=1000000)(dsimp:=false)(disch:=omega) only [go_sem, Φa, hP, h15_1, h15_2, h15_7, h15_8, h15_9, h15_10, h15_103, hops]
                    repeat' (first | refine iteB (fun hg => ?_) (fun hg => ?_) | refine iteI (fun hg => ?_) (fun hg => ?_) | ((first | refine And.intro (by omega) ?_ | refine ⟨_, Cell.at 0 rfl rfl, ?_⟩ | refine ⟨_, Cell.at 1 rfl rfl, ?_⟩ | refine ⟨_, Cell.at 2 rfl rfl, ?_⟩ | refine ⟨_, Cell.at 3 rfl rfl, ?_⟩ | fail); try (with_reducible refine stI ?_); try simp (maxSteps:=1000000)(dsimp:=false)(disch:=omega) only [go_sem, Φa, hP, h15_1, h15_2, h15_7, h15_8, h15_9, h15_10, h15_103, hops]) | fail)
                    all_goals
                      refine hK36 () _ (some (g16, .cells [.int .u8 r.code, .int .u16 0, .bool r.rd, .bool r.wr, .bool false, .int .u8 0, .int .u8 r.port, .bool false].toArray 49 (0, 0)) :: some (bN, .cells [.int .i64 na1, nv1, .bool nb1].toArray 41 (0, 0)) :: some (bR, .cells [.int .i64 (rasN X r).1, .int .i64 (rasN X r).2.1, .bool (rasN X r).2.2.1, .int .i64 (rasN X r).2.2.2].toArray 24 (0, 0)) :: so :: (segs fs ++ L)) _ (by first | exact Less.refl _ | exact Less.drop _ _ | exact Less.drops (Less.drop _ _) | exact Less.drops (Less.drops (Less.drop _ _)) | exact Less.drops (Less.drops (Less.drops (Less.drop _ _))) | exact Less.drops (Less.drops (Less.drops (Less.drops (Less.drop _ _))))) ?_
                      try dsimp only
                      refine ⟨?_, ?_, ?_, ?_, ?_, ?_, ?_, ?_, ?_⟩
                      · simp (maxSteps:=1000000)(dsimp:=false)(disch:=omega) only [go_sem, Φa, hP, h15_1, h15_2, h15_7, h15_8, h15_9, h15_10, h15_103]
                        first | done | rfl | (refine congrArg Value.bool ?_; unfold atZ; simp_all; done) | (refine congrArg Value.bool ?_; simp_all; done)
                      · simp (maxSteps:=1000000)(dsimp:=false)(disch:=omega) only [go_sem, Φa, hP, h15_1, h15_2, h15_7, h15_8, h15_9, h15_10, h15_103]
                      · simp (maxSteps:=1000000)(dsimp:=false)(disch:=omega) only [go_sem, Φa, hP, h15_1, h15_2, h15_7, h15_8, h15_9, h15_10, h15_103]
                      · simp (maxSteps:=1000000)(dsimp:=false)(disch:=omega) only [go_sem, Φa, hP, h15_1, h15_2, h15_7, h15_8, h15_9, h15_10, h15_103]
                      · simp (maxSteps:=1000000)(dsimp:=false)(disch:=omega) only [go_sem, Φa, hP, h15_1, h15_2, h15_7, h15_8, h15_9, h15_10, h15_103]
                      · simp (maxSteps:=1000000)(dsimp:=false)(disch:=omega) only [go_sem, Φa, hP, h15_1, h15_2, h15_7, h15_8, h15_9, h15_10, h15_103]
                      · simp (maxSteps:=1000000)(dsimp:=false)(disch:=omega) only [go_sem, Φa, hP, h15_1, h15_2, h15_7, h15_8, h15_9, h15_10, h15_103]
                      · rfl
                      · trivial
                  · intro ss T16 L16 hI
                    simp only [h15_1, h15_2, h15_7, h15_8, h15_9, h15_10] at hI 
                    obtain ⟨h16_108, h16_1, h16_2, h16_7, h16_8, h16_9, h16_10, hL16, hinv⟩ := hI
                    replace hL16 := hL16.symm
                    subst hL16
                    clear h15_1 h15_2 h15_7 h15_8 h15_9 h15_10 h15_103 T15
                    refine RX.done ?_
                    simp (maxSteps:=1000000)(dsimp:=false)(disch:=omega) only [go_sem, Φa, hP, h16_108, h16_1, h16_2, h16_7, h16_8, h16_9, h16_10, hops]
                    refine hK34 _ _ ?_
                    try clear hK34 K34
                    refine SX.cond_k fun X37 Y37 hX37 hY37 => ?_
                    simp (maxSteps:=1000000)(dsimp:=false)(disch:=omega) only [go_sem, Φa, hP, h16_108, h16_1, h16_2, h16_7, h16_8, h16_9, h16_10, condVC]
                    refine hY37 ?_
                    clear hX37 hY37 X37 Y37
                    refine SX.skip ?_
                    try simp only [andThen_normal, andThen_ret, andThen_exit, inBlk_normal, inBlk_ret, inBlk_exit, Nat.reduceEqDiff, if_true, if_false, ↓reduceIte]
                    refine hK21 _ _ ?_
                    try clear hK21 K21
                    refine SX.region_d [some 30, some 31, some 10] rfl (fun ops hops => ?_)
                    unfold Dsts at hops
                    simp (maxSteps:=1000000)(dsimp:=false)(disch:=omega) only [go_sem, Φa, hP, h16_108, h16_1, h16_2, h16_7, h16_8, h16_9, h16_10, hops]
                    repeat' ((first | refine And.intro (by omega) ?_ | fail); try (with_reducible refine stI ?_); try simp (maxSteps:=1000000)(dsimp:=false)(disch:=omega) only [go_sem, Φa, hP, h16_108, h16_1, h16_2, h16_7, h16_8, h16_9, h16_10, hops])
                    refine hK17 (k + 1, rasN X r, none, na1, nv1, nb1, vo, so, fs) _ (some (bN, .cells [.int .i64 na1, nv1, .bool nb1].toArray 41 (0, 0)) :: some (bR, .cells [.int .i64 (rasN X r).1, .int .i64 (rasN X r).2.1, .bool (rasN X r).2.2.1, .int .i64 (rasN X r).2.2.2].toArray 24 (0, 0)) :: so :: (nowR none ++ (segs fs ++ L))) _ (by exact Less.drop _ _) ?_ ?_
                    · try dsimp only
                      refine ⟨?_, ?_, ?_, ?_, ?_, ?_, ?_, ?_⟩
                      · simp (maxSteps:=1000000)(dsimp:=false)(disch:=omega) only [go_sem, Φa, hP, h16_108, h16_1, h16_2, h16_7, h16_8, h16_9, h16_10]
                        first | done | rfl | skip
                      · simp (maxSteps:=1000000)(dsimp:=false)(disch:=omega) only [go_sem, Φa, hP, h16_108, h16_1, h16_2, h16_7, h16_8, h16_9, h16_10]
                        first | done | rfl | skip
                      · simp (maxSteps:=1000000)(dsimp:=false)(disch:=omega) only [go_sem, Φa, hP, h16_108, h16_1, h16_2, h16_7, h16_8, h16_9, h16_10]
                        first | done | rfl | skip
                      · simp (maxSteps:=1000000)(dsimp:=false)(disch:=omega) only [go_sem, Φa, hP, h16_108, h16_1, h16_2, h16_7, h16_8, h16_9, h16_10]
                      · simp (maxSteps:=1000000)(dsimp:=false)(disch:=omega) only [go_sem, Φa, hP, h16_108, h16_1, h16_2, h16_7, h16_8, h16_9, h16_10]
                      · simp (maxSteps:=1000000)(dsimp:=false)(disch:=omega) only [go_sem, Φa, hP, h16_108, h16_1, h16_2, h16_7, h16_8, h16_9, h16_10]
                      · rfl
                      · refine ⟨by omega, hrow, hfs, fun q hq => (by cases hq), hnv1, ?_⟩
                        rw [hstep, stF_none hns1.symm]
                        rfl
                    · (try dsimp only); omega
            · skip
              try with_reducible refine stI ?_
              obtain ⟨hd, hna, hnv2⟩ := hnk1 _ rfl
              dsimp only at hd hna hnv2
              subst hna hnv2
              have hcb := begunN_cnt hcn hns1.symm
              dsimp only at hcb
              try with_reducible refine stI ?_
              try simp (maxSteps:=1000000)(dsimp:=false)(disch:=omega) only [go_sem, Φa, hP, h8_1, h8_2, h8_7, h8_8, h8_9, h8_10, h8_11, hops]
              refine hK28 _ _ ?_
              try clear hK28 K28
              refine SX.live [1, 2, 7, 8, 9, 10, 11, 12] (fun T17 hT17 => ?_)
              simp only [forall_mem_cons', forall_mem_nil', go_sem, Φa, hP, h8_1, h8_2, h8_7, h8_8, h8_9, h8_10, h8_11] at hT17
              obtain ⟨h17_1, h17_2, h17_7, h17_8, h17_9, h17_10, h17_11, h17_12⟩ := hT17
              clear h8_1 h8_2 h8_7 h8_8 h8_9 h8_10 h8_11 T8
              refine SX.join (fun (ss : (Fd)) T L' => (fun (d1 : Fd) => T 1 = T17 1 ∧ T 2 = T17 2 ∧ T 7 = T17 7 ∧ T 8 = T17 8 ∧ T 9 = T17 9 ∧ T 10 = T17 10 ∧ T 11 = T17 11 ∧ L' = some (g16, .cells [.int .u8 r.code, .int .u16 0, .bool r.rd, .bool r.wr, .bool false, .int .u8 0, .int .u8 r.port, .bool false].toArray 49 (0, 0)) :: some (bN, .cells [.int .i64 na1, (.slice (some ⟨d1.g, 0, none⟩) 128 128), .bool nb1].toArray 41 (0, 0)) :: some (bR, .cells [.int .i64 X.1, .int .i64 X.2.1, .bool X.2.2.1, .int .i64 X.2.2.2].toArray 24 (0, 0)) :: so :: (d1.seg ++ (segs fs ++ L)) ∧ (FdOk (tookN X r fr) d1)) (ss)) (fun K38 hK38 => ?_) ?_
              · simp only [h17_1, h17_2, h17_7, h17_8, h17_9, h17_10, h17_11] at hK38
                refine SX.seq_k fun K39 hK39 => ?_
                refine SX.region_xd [some 67, some 68, some 69, some 70] rfl (fun ops hops => ?_)
                unfold Dsts at hops
                refine RX.live [1, 2, 7, 8, 9, 10, 11, 12] (fun T18 hT18 => ?_)
                simp only [forall_mem_cons', forall_mem_nil', go_sem, Φa, hP, h17_1, h17_2, h17_7, h17_8, h17_9, h17_10, h17_11, h17_12] at hT18
                obtain ⟨h18_1, h18_2, h18_7, h18_8, h18_9, h18_10, h18_11, h18_12⟩ := hT18
                clear h17_1 h17_2 h17_7 h17_8 h17_9 h17_10 h17_11 h17_12 T17
                refine RX.join 4 (fun (ss : Unit) T L' => T 70 = .bool (takesN X r) ∧ T 1 = T18 1 ∧ T 2 = T18 2 ∧ T 7 = T18 7 ∧ T 8 = T18 8 ∧ T 9 = T18 9 ∧ T 10 = T18 10 ∧ T 11 = T18 11 ∧ L' = some (g16, .cells [.int .u8 r.code, .int .u16 0, .bool r.rd, .bool r.wr, .bool false, .int .u8 0, .int .u8 r.port, .bool false].toArray 49 (0, 0)) :: some (bN, .cells [.int .i64 na1, (.slice (some ⟨d.g, 0, none⟩) 128 128), .bool nb1].toArray 41 (0, 0)) :: some (bR, .cells [.int .i64 X.1, .int .i64 X.2.1, .bool X.2.2.1, .int .i64 X.2.2.2].toArray 24 (0, 0)) :: so :: (d.seg ++ (segs fs ++ L)) ∧ (True)) (fun K40 hK40 => ?_) ?_
                · simp only [h18_1, h18_2, h18_7, h18_8, h18_9, h18_10, h18_11] at hK40
                  simp (maxSteps:=1000000)(dsimp:=false)(disch:=omega) only [go_sem, Φa, hP, h18_1, h18_2, h18_7, h18_8, h18_9, h18_10, h18_11, h18_12, hops]
                  repeat' (first | refine iteB (fun hg => ?_) (fun hg => ?_) | refine iteI (fun hg => ?_) (fun hg => ?_) | ((first | refine And.intro (by omega) ?_ | refine ⟨_, Cell.at 0 rfl rfl, ?_⟩ | refine ⟨_, Cell.at 1 rfl rfl, ?_⟩ | refine ⟨_, Cell.at 2 rfl rfl, ?_⟩ | refine ⟨_, Cell.at 3 rfl rfl, ?_⟩ | fail); try (with_reducible refine stI ?_); try simp (maxSteps:=1000000)(dsimp:=false)(disch:=omega) only [go_sem, Φa, hP, h18_1, h18_2, h18_7, h18_8, h18_9, h18_10, h18_11, h18_12, hops]) | fail)
                  all_goals
                    refine hK40 () _ (some (g16, .cells [.int .u8 r.code, .int .u16 0, .bool r.rd, .bool r.wr, .bool false, .int .u8 0, .int .u8 r.port, .bool false].toArray 49 (0, 0)) :: some (bN, .cells [.int .i64 na1, (.slice (some ⟨d.g, 0, none⟩) 128 128), .bool nb1].toArray 41 (0, 0)) :: some (bR, .cells [.int .i64 X.1, .int .i64 X.2.1, .bool X.2.2.1, .int .i64 X.2.2.2].toArray 24 (0, 0)) :: so :: (d.seg ++ (segs fs ++ L))) _ (by first | exact Less.refl _ | exact Less.drop _ _ | exact Less.drops (Less.drop _ _) | exact Less.drops (Less.drops (Less.drop _ _)) | exact Less.drops (Less.drops (Less.drops (Less.drop _ _))) | exact Less.drops (Less.drops (Less.drops (Less.drops (Less.drop _ _))))) ?_
                    try dsimp only
                    refine ⟨?_, ?_, ?_, ?_, ?_, ?_, ?_, ?_, ?_, ?_⟩
                    · simp (maxSteps:=1000000)(dsimp:=false)(disch:=omega) only [go_sem, Φa, hP, h18_1, h18_2, h18_7, h18_8, h18_9, h18_10, h18_11, h18_12]
                      first | done | rfl | (refine congrArg Value.bool ?_; unfold atZ; simp_all; done) | (refine congrArg Value.bool ?_; simp_all; done)
                    · simp (maxSteps:=1000000)(dsimp:=false)(disch:=omega) only [go_sem, Φa, hP, h18_1, h18_2, h18_7, h18_8, h18_9, h18_10, h18_11, h18_12]
                    · simp (maxSteps:=1000000)(dsimp:=false)(disch:=omega) only [go_sem, Φa, hP, h18_1, h18_2, h18_7, h18_8, h18_9, h18_10, h18_11, h18_12]
                    · simp (maxSteps:=1000000)(dsimp:=false)(disch:=omega) only [go_sem, Φa, hP, h18_1, h18_2, h18_7, h18_8, h18_9, h18_10, h18_11, h18_12]
                    · simp (maxSteps:=1000000)(dsimp:=false)(disch:=omega) only [go_sem, Φa, hP, h18_1, h18_2, h18_7, h18_8, h18_9, h18_10, h18_11, h18_12]
                    · simp (maxSteps:=1000000)(dsimp:=false)(disch:=omega) only [go_sem, Φa, hP, h18_1, h18_2, h18_7, h18_8, h18_9, h18_10, h18_11, h18_12]
                    · simp (maxSteps:=1000000)(dsimp:=false)(disch:=omega) only [go_sem, Φa, hP, h18_1, h18_2, h18_7, h18_8, h18_9, h18_10, h18_11, h18_12]
                    · simp (maxSteps:=1000000)(dsimp:=false)(disch:=omega) only [go_sem, Φa, hP, h18_1, h18_2, h18_7, h18_8, h18_9, h18_10, h18_11, h18_12]
                    · rfl
                    · trivial
                · intro ss T19 L19 hI
                  simp only [h18_1, h18_2, h18_7, h18_8, h18_9, h18_10, h18_11] at hI 
                  obtain ⟨h19_70, h19_1, h19_2, h19_7, h19_8, h19_9, h19_10, h19_11, hL19, hinv⟩ := hI
                  replace hL19 := hL19.symm
                  subst hL19
                  clear h18_1 h18_2 h18_7 h18_8 h18_9 h18_10 h18_11 h18_12 T18
                  refine RX.done ?_
                  simp (maxSteps:=1000000)(dsimp:=false)(disch:=omega) only [go_sem, Φa, hP, h19_70, h19_1, h19_2, h19_7, h19_8, h19_9, h19_10, h19_11, hops]
                  refine hK39 _ _ ?_
                  try clear hK39 K39
                  refine SX.cond_k fun X41 Y41 hX41 hY41 => ?_
                  simp (maxSteps:=1000000)(dsimp:=false)(disch:=omega) only [go_sem, Φa, hP, h19_70, h19_1, h19_2, h19_7, h19_8, h19_9, h19_10, h19_11, condVC]
                  refine ⟨fun hc70 => hX41 ?_, fun hc70 => hY41 ?_⟩
                  · clear hX41 hY41 X41 Y41
                    refine SX.seq_k fun K42 hK42 => ?_
                    refine SX.region_d [some 71, some 72, some 73, some 13] rfl (fun ops hops => ?_)
                    unfold Dsts at hops
                    simp (maxSteps:=1000000)(dsimp:=false)(disch:=omega) only [go_sem, Φa, hP, h19_70, h19_1, h19_2, h19_7, h19_8, h19_9, h19_10, h19_11, hops]
                    refine ⟨_, Cell.at 2 rfl rfl, ?_⟩
                    try with_reducible refine stI ?_
                    try simp (maxSteps:=1000000)(dsimp:=false)(disch:=omega) only [go_sem, Φa, hP, h19_70, h19_1, h19_2, h19_7, h19_8, h19_9, h19_10, h19_11, hops]
                    refine hK42 _ _ ?_
                    try clear hK42 K42
                    have hlt := takesN_line hc70
                    have hlj : lineN X < d.ss.length := by have := hd.ns; omega
                    have hv := getD_get (d := undef) (by have := hd.nv; omega : lineN X < d.vals.length)
                    have hrw := hd.row (lineN X) hlt.1
                    have hln : (X.1 - 80).toNat = lineN X := rfl
                    have hca := cnt_at (by have := hd.n; omega : lineN X < fr.length)
                    refine SX.drawn_d [(0, .q), (1, .q), (2, .q), (3, .q), (4, .q), (5, .q), (6, .q), (7, .q), (8, .q), (9, .q), (10, .q), (11, .q), (12, .q), (13, .e), (14, .e), (15, .q), (16, .t)] (fun _ => some (bN, .cells [.int .i64 na1, (.slice (some ⟨d.g, 0, none⟩) 128 128), .bool nb1].toArray 41 (0, 0)) :: some (d.g, .cells d.vals.toArray 50 (0, 0)) :: (segs fs ++ L)) (hP ▸ T.mixed) (by kernel_rfl) (by exact lessG20) [some 74, some 75, some 76, some 77, some 78, some 79, some 80, some 81, some 82, some 83, some 84, some 85, some 86, some 87, some 88, some 89, none] rfl (fun ops hops hopl => ?_)
                    unfold Dsts at hops
                    simp (maxSteps:=1000000)(dsimp:=false)(disch:=omega) only [go_sem, Φa, hP, h19_70, h19_1, h19_2, h19_7, h19_8, h19_9, h19_10, h19_11, hops, hopl, hln, ia_at e1]
                    refine ⟨_, Cell.at 0 rfl rfl, ?_⟩
                    try with_reducible refine stI ?_
                    try simp (maxSteps:=1000000)(dsimp:=false)(disch:=omega) only [go_sem, Φa, hP, h19_70, h19_1, h19_2, h19_7, h19_8, h19_9, h19_10, h19_11, hops, hopl, hln, ia_at e1]
                    refine ⟨_, Cell.at 0 rfl rfl, ?_⟩
                    try with_reducible refine stI ?_
                    try simp (maxSteps:=1000000)(dsimp:=false)(disch:=omega) only [go_sem, Φa, hP, h19_70, h19_1, h19_2, h19_7, h19_8, h19_9, h19_10, h19_11, hops, hopl, hln, ia_at e1]
                    refine ⟨_, Cell.at 1 rfl hv, ?_⟩
                    try with_reducible refine stI ?_
                    try simp (maxSteps:=1000000)(dsimp:=false)(disch:=omega) only [go_sem, Φa, hP, h19_70, h19_1, h19_2, h19_7, h19_8, h19_9, h19_10, h19_11, hops, hopl, hln, ia_at e1]
                    refine ⟨_, Cell.cons _ (Cell.cons _ (Cell.app _ (hck 2 _ rfl))), ?_⟩
                    try with_reducible refine stI ?_
                    try simp (maxSteps:=1000000)(dsimp:=false)(disch:=omega) only [go_sem, Φa, hP, h19_70, h19_1, h19_2, h19_7, h19_8, h19_9, h19_10, h19_11, hops, hopl, hln, ia_at e1]
                    intro g20
                    try with_reducible refine stI ?_
                    try simp (maxSteps:=1000000)(dsimp:=false)(disch:=omega) only [go_sem, Φa, hP, h19_70, h19_1, h19_2, h19_7, h19_8, h19_9, h19_10, h19_11, hops, hopl, hln, ia_at e1]
                    refine ⟨Less.drops lessG20, ?_⟩
                    try with_reducible refine stI ?_
                    try simp (maxSteps:=1000000)(dsimp:=false)(disch:=omega) only [go_sem, Φa, hP, h19_70, h19_1, h19_2, h19_7, h19_8, h19_9, h19_10, h19_11, hops, hopl, hln, ia_at e1]
                    refine YAppend.int1 (i := lineN X + 5) (hP ▸ T.elS_50) (hP ▸ T.zr_5) rfl (get5 hlj) hrw (by omega) (by decide) ?_
                    intro v' s' hr'
                    obtain ⟨A', c', rfl, hcc', _⟩ := Row.form hr'
                    try with_reducible refine stI ?_
                    try simp (maxSteps:=1000000)(dsimp:=false)(disch:=omega) only [go_sem, Φa, hP, h19_70, h19_1, h19_2, h19_7, h19_8, h19_9, h19_10, h19_11, hops, hopl, hln, ia_at e1]
                    rw [seg_set hlj]
                    refine ⟨Less.drops (lessG20 (d := ⟨d.g, d.vals, _⟩)), ?_⟩
                    try with_reducible refine stI ?_
                    try simp (maxSteps:=1000000)(dsimp:=false)(disch:=omega) only [go_sem, Φa, hP, h19_70, h19_1, h19_2, h19_7, h19_8, h19_9, h19_10, h19_11, hops, hopl, hln, ia_at e1]
                    refine ⟨5, _, _, _, rfl, (by have := hd.nv; simp; omega), .inr (by omega), ?_⟩
                    try with_reducible refine stI ?_
                    try simp (maxSteps:=1000000)(dsimp:=false)(disch:=omega) only [go_sem, Φa, hP, h19_70, h19_1, h19_2, h19_7, h19_8, h19_9, h19_10, h19_11, hops, hopl, hln, ia_at e1]
                    refine hK38 (⟨d.g, d.vals.set (lineN X) (.slice A' (fr.getD (lineN X) [] ++ [r.data]).length c'), d.ss.set (lineN X) s'⟩ : Fd) _ (some (g16, .cells [.int .u8 r.code, .int .u16 0, .bool r.rd, .bool r.wr, .bool false, .int .u8 0, .int .u8 r.port, .bool false].toArray 49 (0, 0)) :: some (bN, .cells [.int .i64 na1, (.slice (some ⟨((⟨d.g, d.vals.set (lineN X) (.slice A' (fr.getD (lineN X) [] ++ [r.data]).length c'), d.ss.set (lineN X) s'⟩ : Fd)).g, 0, none⟩) 128 128), .bool nb1].toArray 41 (0, 0)) :: some (bR, .cells [.int .i64 X.1, .int .i64 X.2.1, .bool X.2.2.1, .int .i64 X.2.2.2].toArray 24 (0, 0)) :: so :: (((⟨d.g, d.vals.set (lineN X) (.slice A' (fr.getD (lineN X) [] ++ [r.data]).length c'), d.ss.set (lineN X) s'⟩ : Fd)).seg ++ (segs fs ++ L))) _ (by exact less20 hlj) ?_
                    try dsimp only
                    refine ⟨?_, ?_, ?_, ?_, ?_, ?_, ?_, ?_, ?_⟩
                    · simp (maxSteps:=1000000)(dsimp:=false)(disch:=omega) only [go_sem, Φa, hP, h19_70, h19_1, h19_2, h19_7, h19_8, h19_9, h19_10, h19_11]
                    · simp (maxSteps:=1000000)(dsimp:=false)(disch:=omega) only [go_sem, Φa, hP, h19_70, h19_1, h19_2, h19_7, h19_8, h19_9, h19_10, h19_11]
                    · simp (maxSteps:=1000000)(dsimp:=false)(disch:=omega) only [go_sem, Φa, hP, h19_70, h19_1, h19_2, h19_7, h19_8, h19_9, h19_10, h19_11]
                    · simp (maxSteps:=1000000)(dsimp:=false)(disch:=omega) only [go_sem, Φa, hP, h19_70, h19_1, h19_2, h19_7, h19_8, h19_9, h19_10, h19_11]
                    · simp (maxSteps:=1000000)(dsimp:=false)(disch:=omega) only [go_sem, Φa, hP, h19_70, h19_1, h19_2, h19_7, h19_8, h19_9, h19_10, h19_11]
                    · simp (maxSteps:=1000000)(dsimp:=false)(disch:=omega) only [go_sem, Φa, hP, h19_70, h19_1, h19_2, h19_7, h19_8, h19_9, h19_10, h19_11]
                    · simp (maxSteps:=1000000)(dsimp:=false)(disch:=omega) only [go_sem, Φa, hP, h19_70, h19_1, h19_2, h19_7, h19_8, h19_9, h19_10, h19_11]
                    · rfl
                    · unfold tookN
                      rw [if_pos hc70]
                      exact hd.set hlt.1 hr'
                  · clear hX41 hY41 X41 Y41
                    refine SX.skip ?_
                    try simp only [andThen_normal, andThen_ret, andThen_exit, inBlk_normal, inBlk_ret, inBlk_exit, Nat.reduceEqDiff, if_true, if_false, ↓reduceIte]
                    refine hK38 d _ (some (g16, .cells [.int .u8 r.code, .int .u16 0, .bool r.rd, .bool r.wr, .bool false, .int .u8 0, .int .u8 r.port, .bool false].toArray 49 (0, 0)) :: some (bN, .cells [.int .i64 na1, (.slice (some ⟨d.g, 0, none⟩) 128 128), .bool nb1].toArray 41 (0, 0)) :: some (bR, .cells [.int .i64 X.1, .int .i64 X.2.1, .bool X.2.2.1, .int .i64 X.2.2.2].toArray 24 (0, 0)) :: so :: (d.seg ++ (segs fs ++ L))) _ (by exact Less.refl _) ?_
                    try dsimp only
                    refine ⟨?_, ?_, ?_, ?_, ?_, ?_, ?_, ?_, ?_⟩
                    · simp (maxSteps:=1000000)(dsimp:=false)(disch:=omega) only [go_sem, Φa, hP, h19_70, h19_1, h19_2, h19_7, h19_8, h19_9, h19_10, h19_11]
                    · simp (maxSteps:=1000000)(dsimp:=false)(disch:=omega) only [go_sem, Φa, hP, h19_70, h19_1, h19_2, h19_7, h19_8, h19_9, h19_10, h19_11]
                    · simp (maxSteps:=1000000)(dsimp:=false)(disch:=omega) only [go_sem, Φa, hP, h19_70, h19_1, h19_2, h19_7, h19_8, h19_9, h19_10, h19_11]
                    · simp (maxSteps:=1000000)(dsimp:=false)(disch:=omega) only [go_sem, Φa, hP, h19_70, h19_1, h19_2, h19_7, h19_8, h19_9, h19_10, h19_11]
                    · simp (maxSteps:=1000000)(dsimp:=false)(disch:=omega) only [go_sem, Φa, hP, h19_70, h19_1, h19_2, h19_7, h19_8, h19_9, h19_10, h19_11]
                    · simp (maxSteps:=1000000)(dsimp:=false)(disch:=omega) only [go_sem, Φa, hP, h19_70, h19_1, h19_2, h19_7, h19_8, h19_9, h19_10, h19_11]
                    · simp (maxSteps:=1000000)(dsimp:=false)(disch:=omega) only [go_sem, Φa, hP, h19_70, h19_1, h19_2, h19_7, h19_8, h19_9, h19_10, h19_11]
                    · rfl
                    · unfold tookN
                      rw [if_neg (by rw [hc70]; exact Bool.false_ne_true)]
                      exact hd
              · intro d1 T20 L20 hI
                try dsimp only at hI 
                simp only [h17_1, h17_2, h17_7, h17_8, h17_9, h17_10, h17_11] at hI 
                obtain ⟨h20_1, h20_2, h20_7, h20_8, h20_9, h20_10, h20_11, hL20, hd1⟩ := hI
                replace hL20 := hL20.symm
                subst hL20
                clear h17_1 h17_2 h17_7 h17_8 h17_9 h17_10 h17_11 h17_12 T17
                refine SX.seq_k fun K43 hK43 => ?_
                refine SX.drawn_d [(0, .q), (1, .q), (2, .q), (3, .q), (4, .q), (5, .q), (6, .q), (7, .e), (8, .t)] (fun L => L) (hP ▸ T.mixed) (by kernel_rfl) (by exact Less.refl _) [some 90, some 91, some 92, some 93, some 94, some 95, some 96, some 97, none] rfl (fun ops hops hopl => ?_)
                unfold Dsts at hops
                simp (maxSteps:=1000000)(dsimp:=false)(disch:=omega) only [go_sem, Φa, hP, h20_1, h20_2, h20_7, h20_8, h20_9, h20_10, h20_11, hops, hopl, ia_at e1]
                refine ⟨_, Cell.at 2 rfl rfl, _, Cell.at 2 rfl rfl, _, Cell.at 2 rfl rfl, _, Cell.at 2 rfl rfl, ?_⟩
                try with_reducible refine stI ?_
                try simp (maxSteps:=1000000)(dsimp:=false)(disch:=omega) only [go_sem, Φa, hP, h20_1, h20_2, h20_7, h20_8, h20_9, h20_10, h20_11, hops, hopl, ia_at e1]
                refine ⟨_, Cell.at 0 rfl rfl, _, Cell.at 0 rfl rfl, _, Cell.at 0 rfl rfl, _, Cell.at 0 rfl rfl, _, Cell.at 0 rfl rfl, _, Cell.at 0 rfl rfl, _, Cell.at 0 rfl rfl, _, Cell.at 0 rfl rfl, ?_⟩
                try with_reducible refine stI ?_
                try simp (maxSteps:=1000000)(dsimp:=false)(disch:=omega) only [go_sem, Φa, hP, h20_1, h20_2, h20_7, h20_8, h20_9, h20_10, h20_11, hops, hopl, ia_at e1]
                refine ⟨_, Cell.cons _ (Cell.cons _ (Cell.cons _ (Cell.cons _ (Cell.app _ (Cell.app _ (hck 7 _ rfl)))))), ?_⟩
                try with_reducible refine stI ?_
                try simp (maxSteps:=1000000)(dsimp:=false)(disch:=omega) only [go_sem, Φa, hP, h20_1, h20_2, h20_7, h20_8, h20_9, h20_10, h20_11, hops, hopl, ia_at e1]
                refine SCall.mono (refStepR_spec hP) ?_
                rintro v_ L_ ⟨hv_, hL_⟩
                rw [hv_, hL_]
                clear hv_ hL_ v_ L_
                try with_reducible refine stI ?_
                try simp (maxSteps:=1000000)(dsimp:=false)(disch:=omega) only [go_sem, Φa, hP, h20_1, h20_2, h20_7, h20_8, h20_9, h20_10, h20_11, hops, hopl, ia_at e1]
                refine ⟨2, _, _, _, rfl, by simp, .inr (by decide), ?_⟩
                try with_reducible refine stI ?_
                try simp (maxSteps:=1000000)(dsimp:=false)(disch:=omega) only [go_sem, Φa, hP, h20_1, h20_2, h20_7, h20_8, h20_9, h20_10, h20_11, hops, hopl, ia_at e1]
                refine hK43 _ _ ?_
                try clear hK43 K43
                refine SX.seq_k fun K44 hK44 => ?_
                refine SX.region_xd [some 98, some 99, some 100, some 101, some 102, some 103, some 104, some 105, some 106, some 107, some 108] rfl (fun ops hops => ?_)
                unfold Dsts at hops
                refine RX.live [1, 2, 7, 8, 9, 10] (fun T21 hT21 => ?_)
                simp only [forall_mem_cons', forall_mem_nil', go_sem, Φa, hP, h20_1, h20_2, h20_7, h20_8, h20_9, h20_10, h20_11] at hT21
                obtain ⟨h21_1, h21_2, h21_7, h21_8, h21_9, h21_10⟩ := hT21
                clear h20_1 h20_2 h20_7 h20_8 h20_9 h20_10 h20_11 T20
                refine RX.join 6 (fun (ss : Unit) T L' => T 103 = .bool (decide ((rasN X r).1 = 0)) ∧ T 1 = T21 1 ∧ T 2 = T21 2 ∧ T 7 = T21 7 ∧ T 8 = T21 8 ∧ T 9 = T21 9 ∧ T 10 = T21 10 ∧ L' = some (g16, .cells [.int .u8 r.code, .int .u16 0, .bool r.rd, .bool r.wr, .bool false, .int .u8 0, .int .u8 r.port, .bool false].toArray 49 (0, 0)) :: some (bN, .cells [.int .i64 na1, (.slice (some ⟨d1.g, 0, none⟩) 128 128), .bool nb1].toArray 41 (0, 0)) :: some (bR, .cells [.int .i64 (rasN X r).1, .int .i64 (rasN X r).2.1, .bool (rasN X r).2.2.1, .int .i64 (rasN X r).2.2.2].toArray 24 (0, 0)) :: so :: (d1.seg ++ (segs fs ++ L)) ∧ (True)) (fun K45 hK45 => ?_) ?_
                · simp only [h21_1, h21_2, h21_7, h21_8, h21_9, h21_10] at hK45
                  simp (maxSteps:=1000000)(dsimp:=false)(disch:=omega) only [go_sem, Φa, hP, h21_1, h21_2, h21_7, h21_8, h21_9, h21_10, hops]
                  repeat' (first | refine iteB (fun hg => ?_) (fun hg => ?_) | refine iteI (fun hg => ?_) (fun hg => ?_) | ((first | refine And.intro (by omega) ?_ | refine ⟨_, Cell.at 0 rfl rfl, ?_⟩ | refine ⟨_, Cell.at 1 rfl rfl, ?_⟩ | refine ⟨_, Cell.at 2 rfl rfl, ?_⟩ | refine ⟨_, Cell.at 3 rfl rfl, ?_⟩ | fail); try (with_reducible refine stI ?_); try simp (maxSteps:=1000000)(dsimp:=false)(disch:=omega) only [go_sem, Φa, hP, h21_1, h21_2, h21_7, h21_8, h21_9, h21_10, hops]) | fail)
                  all_goals
                    refine hK45 () _ (some (g16, .cells [.int .u8 r.code, .int .u16 0, .bool r.rd, .bool r.wr, .bool false, .int .u8 0, .int .u8 r.port, .bool false].toArray 49 (0, 0)) :: some (bN, .cells [.int .i64 na1, (.slice (some ⟨d1.g, 0, none⟩) 128 128), .bool nb1].toArray 41 (0, 0)) :: some (bR, .cells [.int .i64 (rasN X r).1, .int .i64 (rasN X r).2.1, .bool (rasN X r).2.2.1, .int .i64 (rasN X r).2.2.2].toArray 24 (0, 0)) :: so :: (d1.seg ++ (segs fs ++ L))) _ (by first | exact Less.refl _ | exact Less.drop _ _ | exact Less.drops (Less.drop _ _) | exact Less.drops (Less.drops (Less.drop _ _)) | exact Less.drops (Less.drops (Less.drops (Less.drop _ _))) | exact Less.drops (Less.drops (Less.drops (Less.drops (Less.drop _ _))))) ?_
                    try dsimp only
                    refine ⟨?_, ?_, ?_, ?_, ?_, ?_, ?_, ?_, ?_⟩
                    · simp (maxSteps:=1000000)(dsimp:=false)(disch:=omega) only [go_sem, Φa, hP, h21_1, h21_2, h21_7, h21_8, h21_9, h21_10]
                      first | done | rfl | (refine congrArg Value.bool ?_; unfold atZ; first | (rw [hg, Bool.true_and]; done) | (rw [hg, Bool.false_and]; done) | (rw [decide_eq_true hg, Bool.true_and]; done) | (rw [decide_eq_false hg, Bool.false_and]; done) | (rw [decide_eq_true hg]; rfl))
                    · simp (maxSteps:=1000000)(dsimp:=false)(disch:=omega) only [go_sem, Φa, hP, h21_1, h21_2, h21_7, h21_8, h21_9, h21_10]
                    · simp (maxSteps:=1000000)(dsimp:=false)(disch:=omega) only [go_sem, Φa, hP, h21_1, h21_2, h21_7, h21_8, h21_9, h21_10]
                    · simp (maxSteps:=1000000)(dsimp:=false)(disch:=omega) only [go_sem, Φa, hP, h21_1, h21_2, h21_7, h21_8, h21_9, h21_10]
                    · simp (maxSteps:=1000000)(dsimp:=false)(disch:=omega) only [go_sem, Φa, hP, h21_1, h21_2, h21_7, h21_8, h21_9, h21_10]
                    · simp (maxSteps:=1000000)(dsimp:=false)(disch:=omega) only [go_sem, Φa, hP, h21_1, h21_2, h21_7, h21_8, h21_9, h21_10]
                    · simp (maxSteps:=1000000)(dsimp:=false)(disch:=omega) only [go_sem, Φa, hP, h21_1, h21_2, h21_7, h21_8, h21_9, h21_10]
                    · rfl
                    · trivial
                · intro ss T22 L22 hI
                  simp only [h21_1, h21_2, h21_7, h21_8, h21_9, h21_10] at hI 
                  obtain ⟨h22_103, h22_1, h22_2, h22_7, h22_8, h22_9, h22_10, hL22, hinv⟩ := hI
                  replace hL22 := hL22.symm
                  subst hL22
                  clear h21_1 h21_2 h21_7 h21_8 h21_9 h21_10 T21
                  refine RX.live [1, 2, 7, 8, 9, 10, 103] (fun T23 hT23 => ?_)
                  simp only [forall_mem_cons', forall_mem_nil', go_sem, Φa, hP, h22_103, h22_1, h22_2, h22_7, h22_8, h22_9, h22_10] at hT23
                  obtain ⟨h23_1, h23_2, h23_7, h23_8, h23_9, h23_10, h23_103⟩ := hT23
                  clear h22_103 h22_1 h22_2 h22_7 h22_8 h22_9 h22_10 T22
                  refine RX.join 5 (fun (ss : Unit) T L' => T 108 = .bool (atZ (rasN X r)) ∧ T 1 = T23 1 ∧ T 2 = T23 2 ∧ T 7 = T23 7 ∧ T 8 = T23 8 ∧ T 9 = T23 9 ∧ T 10 = T23 10 ∧ L' = some (g16, .cells [.int .u8 r.code, .int .u16 0, .bool r.rd, .bool r.wr, .bool false, .int .u8 0, .int .u8 r.port, .bool false].toArray 49 (0, 0)) :: some (bN, .cells [.int .i64 na1, (.slice (some ⟨d1.g, 0, none⟩) 128 128), .bool nb1].toArray 41 (0, 0)) :: some (bR, .cells [.int .i64 (rasN X r).1, .int .i64 (rasN X r).2.1, .bool (rasN X r).2.2.1, .int .i64 (rasN X r).2.2.2].toArray 24 (0, 0)) :: so :: (d1.seg ++ (segs fs ++ L)) ∧ (True)) (fun K46 hK46 => ?_) ?_
                  · simp only [h23_1, h23_2, h23_7, h23_8, h23_9, h23_10] at hK46
                    simp (maxSteps:=1000000)(dsimp:=false)(disch:=omega) only [go_sem, Φa, hP, h23_1, h23_2, h23_7, h23_8, h23_9, h23_10, h23_103, hops]
                    repeat' (first | refine iteB (fun hg => ?_) (fun hg => ?_) | refine iteI (fun hg => ?_) (fun hg => ?_) | ((first | refine And.intro (by omega) ?_ | refine ⟨_, Cell.at 0 rfl rfl, ?_⟩ | refine ⟨_, Cell.at 1 rfl rfl, ?_⟩ | refine ⟨_, Cell.at 2 rfl rfl, ?_⟩ | refine ⟨_, Cell.at 3 rfl rfl, ?_⟩ | fail); try (with_reducible refine stI ?_); try simp (maxSteps:=1000000)(dsimp:=false)(disch:=omega) only [go_sem, Φa, hP, h23_1, h23_2, h23_7, h23_8, h23_9, h23_10, h23_103, hops]) | fail)
                    all_goals
                      refine hK46 () _ (some (g16, .cells [.int .u8 r.code, .int .u16 0, .bool r.rd, .bool r.wr, .bool false, .int .u8 0, .int .u8 r.port, .bool false].toArray 49 (0, 0)) :: some (bN, .cells [.int .i64 na1, (.slice (some ⟨d1.g, 0, none⟩) 128 128), .bool nb1].toArray 41 (0, 0)) :: some (bR, .cells [.int .i64 (rasN X r).1, .int .i64 (rasN X r).2.1, .bool (rasN X r).2.2.1, .int .i64 (rasN X r).2.2.2].toArray 24 (0, 0)) :: so :: (d1.seg ++ (segs fs ++ L))) _ (by first | exact Less.refl _ | exact Less.drop _ _ | exact Less.drops (Less.drop _ _) | exact Less.drops (Less.drops (Less.drop _ _)) | exact Less.drops (Less.drops (Less.drops (Less.drop _ _))) | exact Less.drops (Less.drops (Less.drops (Less.drops (Less.drop _ _))))) ?_
                      try dsimp only
                      refine ⟨?_, ?_, ?_, ?_, ?_, ?_, ?_, ?_, ?_⟩
                      · simp (maxSteps:=1000000)(dsimp:=false)(disch:=omega) only [go_sem, Φa, hP, h23_1, h23_2, h23_7, h23_8, h23_9, h23_10, h23_103]
                        first | done | rfl | (refine congrArg Value.bool ?_; unfold atZ; first | (rw [hg, Bool.true_and]; done) | (rw [hg, Bool.false_and]; done) | (rw [decide_eq_true hg, Bool.true_and]; done) | (rw [decide_eq_false hg, Bool.false_and]; done) | (rw [decide_eq_true hg]; rfl))
                      · simp (maxSteps:=1000000)(dsimp:=false)(disch:=omega) only [go_sem, Φa, hP, h23_1, h23_2, h23_7, h23_8, h23_9, h23_10, h23_103]
                      · simp (maxSteps:=1000000)(dsimp:=false)(disch:=omega) only [go_sem, Φa, hP, h23_1, h23_2, h23_7, h23_8, h23_9, h23_10, h23_103]
                      · simp (maxSteps:=1000000)(dsimp:=false)(disch:=omega) only [go_sem, Φa, hP, h23_1, h23_2, h23_7, h23_8, h23_9, h23_10, h23_103]
                      · simp (maxSteps:=1000000)(dsimp:=false)(disch:=omega) only [go_sem, Φa, hP, h23_1, h23_2, h23_7, h23_8, h23_9, h23_10, h23_103]
                      · simp (maxSteps:=1000000)(dsimp:=false)(disch:=omega) only [go_sem, Φa, hP, h23_1, h23_2, h23_7, h23_8, h23_9, h23_10, h23_103]
                      · simp (maxSteps:=1000000)(dsimp:=false)(disch:=omega) only [go_sem, Φa, hP, h23_1, h23_2, h23_7, h23_8, h23_9, h23_10, h23_103]
                      · rfl
                      · trivial
                  · intro ss T24 L24 hI
                    simp only [h23_1, h23_2, h23_7, h23_8, h23_9, h23_10] at hI 
                    obtain ⟨h24_108, h24_1, h24_2, h24_7, h24_8, h24_9, h24_10, hL24, hinv⟩ := hI
                    replace hL24 := hL24.symm
                    subst hL24
                    clear h23_1 h23_2 h23_7 h23_8 h23_9 h23_10 h23_103 T23
                    refine RX.done ?_
                    simp (maxSteps:=1000000)(dsimp:=false)(disch:=omega) only [go_sem, Φa, hP, h24_108, h24_1, h24_2, h24_7, h24_8, h24_9, h24_10, hops]
                    refine hK44 _ _ ?_
                    try clear hK44 K44
                    refine SX.cond_k fun X47 Y47 hX47 hY47 => ?_
                    simp (maxSteps:=1000000)(dsimp:=false)(disch:=omega) only [go_sem, Φa, hP, h24_108, h24_1, h24_2, h24_7, h24_8, h24_9, h24_10, condVC]
                    refine ⟨fun hc108 => hX47 ?_, fun hc108 => hY47 ?_⟩
                    · clear hX47 hY47 X47 Y47
                      refine SX.seq_k fun K48 hK48 => ?_
                      have hcb2 := tookN_cnt (x := X) (r := r) hcb.2
                      have hsl1 : SlR (Cell Γ (some (g16, .cells [.int .u8 r.code, .int .u16 0, .bool r.rd, .bool r.wr, .bool false, .int .u8 0, .int .u8 r.port, .bool false].toArray 49 (0, 0)) :: some (bN, .cells [.int .i64 na1, (.slice (some ⟨d1.g, 0, none⟩) 128 128), .bool nb1].toArray 41 (0, 0)) :: some (bR, .cells [.int .i64 (rasN X r).1, .int .i64 (rasN X r).2.1, .bool (rasN X r).2.2.1, .int .i64 (rasN X r).2.2.2].toArray 24 (0, 0)) :: so :: (d1.seg ++ (segs fs ++ L)))) d1.val (tookN X r fr) := hd1.sl (fun s hs => List.mem_cons_of_mem _ (List.mem_cons_of_mem _ (List.mem_cons_of_mem _ (List.mem_cons_of_mem _ (List.mem_append_left _ hs)))))
                      have hrl1 := tookN_len X r fr
                      have hshb : decide (((cnt (tookN X r fr) : Nat) : Int) < 1024) = shortB (tookN X r fr) := decide_eq_decide.2 (by omega)
                      refine SX.region_d [some 109, some 110, some 111, some 14] rfl (fun ops hops => ?_)
                      unfold Dsts at hops
                      simp (maxSteps:=1000000)(dsimp:=false)(disch:=omega) only [go_sem, Φa, hP, h24_108, h24_1, h24_2, h24_7, h24_8, h24_9, h24_10, hops]
                      refine ⟨_, Cell.at 1 rfl rfl, ?_⟩
                      try with_reducible refine stI ?_
                      try simp (maxSteps:=1000000)(dsimp:=false)(disch:=omega) only [go_sem, Φa, hP, h24_108, h24_1, h24_2, h24_7, h24_8, h24_9, h24_10, hops]
                      refine SCall.mono (refCount_spec hP hsl1 (by omega) (by omega)) ?_
                      rintro v_ L_ ⟨hv_, hL_⟩
                      rw [hv_, hL_]
                      clear hv_ hL_ v_ L_
                      try with_reducible refine stI ?_
                      try simp (maxSteps:=1000000)(dsimp:=false)(disch:=omega) only [go_sem, Φa, hP, h24_108, h24_1, h24_2, h24_7, h24_8, h24_9, h24_10, hops]
                      refine hK48 _ _ ?_
                      try clear hK48 K48
                      refine SX.seq_k fun K49 hK49 => ?_
                      refine SX.region_d [some 112, some 113, some 114, none] rfl (fun ops hops => ?_)
                      unfold Dsts at hops
                      simp (maxSteps:=1000000)(dsimp:=false)(disch:=omega) only [go_sem, Φa, hP, h24_108, h24_1, h24_2, h24_7, h24_8, h24_9, h24_10, hops, hshb]
                      refine ⟨1, _, _, _, rfl, (by simp), .inr (by decide), ?_⟩
                      try with_reducible refine stI ?_
                      try simp (maxSteps:=1000000)(dsimp:=false)(disch:=omega) only [go_sem, Φa, hP, h24_108, h24_1, h24_2, h24_7, h24_8, h24_9, h24_10, hops, hshb]
                      refine hK49 _ _ ?_
                      try clear hK49 K49
                      refine SX.seq_k fun K50 hK50 => ?_
                      refine SX.region_d [some 115, some 116, some 117, some 118, some 7] rfl (fun ops hops => ?_)
                      unfold Dsts at hops
                      simp (maxSteps:=1000000)(dsimp:=false)(disch:=omega) only [go_sem, Φa, hP, h24_108, h24_1, h24_2, h24_7, h24_8, h24_9, h24_10, hops]
                      refine ⟨_, Cell.at 1 rfl rfl, _, Cell.at 1 rfl rfl, _, Cell.at 1 rfl rfl, ?_⟩
                      try with_reducible refine stI ?_
                      try simp (maxSteps:=1000000)(dsimp:=false)(disch:=omega) only [go_sem, Φa, hP, h24_108, h24_1, h24_2, h24_7, h24_8, h24_9, h24_10, hops]
                      intro g27
                      try with_reducible refine stI ?_
                      try simp (maxSteps:=1000000)(dsimp:=false)(disch:=omega) only [go_sem, Φa, hP, h24_108, h24_1, h24_2, h24_7, h24_8, h24_9, h24_10, hops]
                      refine YAppend.rowL (f := fval) (x := ((⟨na1, tookN X r fr, shortB (tookN X r fr)⟩ : Fm), d1)) (i := 3) (z := [.int .i64 0, .slice none 0 0, .bool false]) (hP ▸ T.elS_30) (hP ▸ T.zr_41) rfl rfl rfl rfl hrow (by omega) (by decide) ?_
                      intro v' s' hrow'
                      try with_reducible refine stI ?_
                      try simp (maxSteps:=1000000)(dsimp:=false)(disch:=omega) only [go_sem, Φa, hP, h24_108, h24_1, h24_2, h24_7, h24_8, h24_9, h24_10, hops]
                      refine hK50 _ _ ?_
                      try clear hK50 K50
                      refine SX.live [1, 2, 7, 9, 10] (fun T25 hT25 => ?_)
                      simp only [forall_mem_cons', forall_mem_nil', go_sem, Φa, hP, h24_108, h24_1, h24_2, h24_7, h24_8, h24_9, h24_10] at hT25
                      obtain ⟨h25_1, h25_2, h25_7, h25_9, h25_10⟩ := hT25
                      clear h24_108 h24_1 h24_2 h24_7 h24_8 h24_9 h24_10 T24
                      refine SX.region_d [some 8] rfl (fun ops hops => ?_)
                      unfold Dsts at hops
                      simp (maxSteps:=1000000)(dsimp:=false)(disch:=omega) only [go_sem, Φa, hP, h25_1, h25_2, h25_7, h25_9, h25_10, hops]
                      refine hK21 _ _ ?_
                      try clear hK21 K21
                      refine SX.region_d [some 30, some 31, some 10] rfl (fun ops hops => ?_)
                      unfold Dsts at hops
                      simp (maxSteps:=1000000)(dsimp:=false)(disch:=omega) only [go_sem, Φa, hP, h25_1, h25_2, h25_7, h25_9, h25_10, hops]
                      repeat' ((first | refine And.intro (by omega) ?_ | fail); try (with_reducible refine stI ?_); try simp (maxSteps:=1000000)(dsimp:=false)(disch:=omega) only [go_sem, Φa, hP, h25_1, h25_2, h25_7, h25_9, h25_10, hops])
                      refine hK17 (k + 1, rasN X r, none, na1, .slice (some ⟨d1.g, 0, none⟩) 128 128, shortB (tookN X r fr), v', s', fs ++ [((⟨na1, tookN X r fr, shortB (tookN X r fr)⟩ : Fm), d1)]) _ (some (bN, .cells [.int .i64 na1, (.slice (some ⟨d1.g, 0, none⟩) 128 128), .bool (shortB (tookN X r fr))].toArray 41 (0, 0)) :: some (bR, .cells [.int .i64 (rasN X r).1, .int .i64 (rasN X r).2.1, .bool (rasN X r).2.2.1, .int .i64 (rasN X r).2.2.2].toArray 24 (0, 0)) :: s' :: (nowR none ++ (segs (fs ++ [((⟨na1, tookN X r fr, shortB (tookN X r fr)⟩ : Fm), d1)]) ++ L))) _ (by exact less_fin2 (fs := fs) (p := ((⟨na1, tookN X r fr, shortB (tookN X r fr)⟩ : Fm), d1))) ?_ ?_
                      · try dsimp only
                        refine ⟨?_, ?_, ?_, ?_, ?_, ?_, ?_, ?_⟩
                        · simp (maxSteps:=1000000)(dsimp:=false)(disch:=omega) only [go_sem, Φa, hP, h25_1, h25_2, h25_7, h25_9, h25_10]
                          first | done | rfl | skip
                        · simp (maxSteps:=1000000)(dsimp:=false)(disch:=omega) only [go_sem, Φa, hP, h25_1, h25_2, h25_7, h25_9, h25_10]
                          first | done | rfl | skip
                        · simp (maxSteps:=1000000)(dsimp:=false)(disch:=omega) only [go_sem, Φa, hP, h25_1, h25_2, h25_7, h25_9, h25_10]
                          first | done | rfl | skip
                        · simp (maxSteps:=1000000)(dsimp:=false)(disch:=omega) only [go_sem, Φa, hP, h25_1, h25_2, h25_7, h25_9, h25_10]
                        · simp (maxSteps:=1000000)(dsimp:=false)(disch:=omega) only [go_sem, Φa, hP, h25_1, h25_2, h25_7, h25_9, h25_10]
                        · simp (maxSteps:=1000000)(dsimp:=false)(disch:=omega) only [go_sem, Φa, hP, h25_1, h25_2, h25_7, h25_9, h25_10]
                        · rfl
                        · refine ⟨by omega, hrow', FsOk.app hfs hd1, fun q hq => (by cases hq), rfl, ?_⟩
                          rw [hstep, stF_fin hns1.symm hc108, List.map_append]
                          rfl
                      · (try dsimp only); omega
                    · clear hX47 hY47 X47 Y47
                      refine SX.skip ?_
                      try simp only [andThen_normal, andThen_ret, andThen_exit, inBlk_normal, inBlk_ret, inBlk_exit, Nat.reduceEqDiff, if_true, if_false, ↓reduceIte]
                      refine hK21 _ _ ?_
                      try clear hK21 K21
                      refine SX.region_d [some 30, some 31, some 10] rfl (fun ops hops => ?_)
                      unfold Dsts at hops
                      simp (maxSteps:=1000000)(dsimp:=false)(disch:=omega) only [go_sem, Φa, hP, h24_108, h24_1, h24_2, h24_7, h24_8, h24_9, h24_10, hops]
                      repeat' ((first | refine And.intro (by omega) ?_ | fail); try (with_reducible refine stI ?_); try simp (maxSteps:=1000000)(dsimp:=false)(disch:=omega) only [go_sem, Φa, hP, h24_108, h24_1, h24_2, h24_7, h24_8, h24_9, h24_10, hops])
                      refine hK17 (k + 1, rasN X r, some ((⟨na1, tookN X r fr, false⟩ : Fm), d1), na1, .slice (some ⟨d1.g, 0, none⟩) 128 128, nb1, vo, so, fs) _ (some (bN, .cells [.int .i64 na1, (.slice (some ⟨d1.g, 0, none⟩) 128 128), .bool nb1].toArray 41 (0, 0)) :: some (bR, .cells [.int .i64 (rasN X r).1, .int .i64 (rasN X r).2.1, .bool (rasN X r).2.2.1, .int .i64 (rasN X r).2.2.2].toArray 24 (0, 0)) :: so :: (nowR (some ((⟨na1, tookN X r fr, false⟩ : Fm), d1)) ++ (segs fs ++ L))) _ (by exact Less.drop _ _) ?_ ?_
                      · try dsimp only
                        refine ⟨?_, ?_, ?_, ?_, ?_, ?_, ?_, ?_⟩
                        · simp (maxSteps:=1000000)(dsimp:=false)(disch:=omega) only [go_sem, Φa, hP, h24_108, h24_1, h24_2, h24_7, h24_8, h24_9, h24_10]
                          first | done | rfl | skip
                        · simp (maxSteps:=1000000)(dsimp:=false)(disch:=omega) only [go_sem, Φa, hP, h24_108, h24_1, h24_2, h24_7, h24_8, h24_9, h24_10]
                          first | done | rfl | skip
                        · simp (maxSteps:=1000000)(dsimp:=false)(disch:=omega) only [go_sem, Φa, hP, h24_108, h24_1, h24_2, h24_7, h24_8, h24_9, h24_10]
                          first | done | rfl | skip
                        · simp (maxSteps:=1000000)(dsimp:=false)(disch:=omega) only [go_sem, Φa, hP, h24_108, h24_1, h24_2, h24_7, h24_8, h24_9, h24_10]
                        · simp (maxSteps:=1000000)(dsimp:=false)(disch:=omega) only [go_sem, Φa, hP, h24_108, h24_1, h24_2, h24_7, h24_8, h24_9, h24_10]
                        · simp (maxSteps:=1000000)(dsimp:=false)(disch:=omega) only [go_sem, Φa, hP, h24_108, h24_1, h24_2, h24_7, h24_8, h24_9, h24_10]
                        · rfl
                        · refine ⟨by omega, hrow, hfs, fun q hq => (by cases hq; exact ⟨hd1, rfl, rfl⟩), rfl, ?_⟩
                          rw [hstep, stF_go hns1.symm hc108]
                          rfl
                      · (try dsimp only); omega
        · clear hX20 hY20 X20 Y20
          refine SX.exit ?_
          try simp only [andThen_normal, andThen_ret, andThen_exit, inBlk_normal, inBlk_ret, inBlk_exit, Nat.reduceEqDiff, if_true, if_false, ↓reduceIte]
          refine hK15 _ _ ?_
          try clear hK15 K15
          refine SX.seq_k fun K51 hK51 => ?_
          refine SX.region_d [some 119, some 4, some 5] rfl (fun ops hops => ?_)
          unfold Dsts at hops
          simp (maxSteps:=1000000)(dsimp:=false)(disch:=omega) only [go_sem, Φa, hP, h3_7, h3_8, h3_10, h3_1, h3_2, h3_9, hops]
          refine hK51 _ _ ?_
          try clear hK51 K51
          refine SX.ret ?_
          simp only [andThen_normal, andThen_ret, andThen_exit, inBlk_normal, inBlk_ret, inBlk_exit, Nat.reduceEqDiff, if_true, if_false, ↓reduceIte, retQ_ret]
          try simp only [res0, res1, res2, res3, stK_e, go_sem, Φa, hP, h3_7, h3_8, h3_10, h3_1, h3_2, h3_9]
          obtain rfl : k = l.length := by omega
          refine ⟨_, _, less_end2, rfl, ?_⟩
          have ho := ofP_ok hok hgood
          rw [hst] at ho
          exact ⟨vo, so, fs, by rw [ho], rfl, hrow, hfs, by rw [ho]⟩

end Go.Proofs.YtpakphgeichopaaDoor
set_option linter.unusedVariables false
namespace Go.Proofs
open Go.Shelf Go.RowKit Go.Lib
def Tryd.lays169_ren : Go.Shelf.Ren := ⟨fun | 169 => 39 | n => n, fun | 70 => 70 | 9 => 9 | 0 => 0 | 72 => 72 | 37 => 50 | 127 => 93 | 3 => 3 | 5 => 5 | n => n, fun | n => n⟩
theorem Tryd.lays169 : Go.Proofs.Lays.n169 Tryd.prog Tryd.lays169_ren := {
  mixed := by kernel_rfl
  f169 := Tryd.func39.trans (congrArg some (by kernel_rfl))
  t0 := Tryd.underlying0
  a0 := Tryd.isAgg0
  z0 := Tryd.sizeOf0
  v0 := Tryd.zeroValue0
  t3 := Tryd.underlying3
  a3 := Tryd.isAgg3
  z3 := Tryd.sizeOf3
  v3 := Tryd.zeroValue3
  t9 := Tryd.underlying9
  a9 := Tryd.isAgg9
  z9 := Tryd.sizeOf9
  v9 := Tryd.zeroValue9
  t37 := Tryd.underlying50
  a37 := Tryd.isAgg50
  z37 := Tryd.sizeOf50
  v37 := Tryd.zeroValue50
  t70 := Tryd.underlying70
  a70 := Tryd.isAgg70
  z70 := Tryd.sizeOf70
  v70 := Tryd.zeroValue70
  t72 := Tryd.underlying72
  a72 := Tryd.isAgg72
  z72 := Tryd.sizeOf72
  v72 := Tryd.zeroValue72
  t127 := Tryd.underlying93
  a127 := Tryd.isAgg93
  z127 := Tryd.sizeOf93
  v127 := Tryd.zeroValue93 }
theorem Tryd.Builder_Extra_169 : Builder.Extra Tryd.prog Tryd.lays169_ren := {
  sizeBuilder := by kernel_rfl
  liesBuilder := by kernel_rfl
  t5 := Tryd.underlying5
  a5 := Tryd.isAgg5
  z5 := Tryd.sizeOf5
  v5 := Tryd.zeroValue5
  infoByte := by kernel_rfl
  cellsByte := by kernel_rfl
  sizeByte := by kernel_rfl
  neB5 := by decide }
theorem Tryd.Builder_String_any (B b : Nat) (l : List UInt8) (w : World) (h : Lib.IsBuilder 72 5 B b (Lib.byteCells l) w) (hBw : B ≤ w.heap.size) :
    Calls Tryd.prog 39 #[.pointer (some ⟨b, 0, none⟩)] w fun e w' => e = .returned (.string ⟨l.toArray⟩) ∧ Below B w w' := Any.Builder_String_any Tryd.lays169 Tryd.Builder_Extra_169 B b l w h hBw
end Go.Proofs
set_option linter.unusedVariables false
set_option linter.unusedSimpArgs false
namespace Go.Proofs.YtpakphgeichopaaDoor
open Go.RowKit Go.SX Go.Proofs
/-! strings.Builder: copyCheck. -/
theorem bInfo : (Tryd.prog.info? 72).map (·.size) = some 2 := by kernel_rfl
theorem bLies : liesAt Tryd.prog Tryd.prog.depth 72 (2 / Tryd.prog.cellsOf 72) 0 72 1 = true := by kernel_rfl
set_option maxHeartbeats 1000000 in
set_option maxRecDepth 100000 in
theorem copyCheck_used (b : Nat) (w : World) (h0 : w.cell? ⟨b, 0, none⟩ = some (.pointer (some ⟨b, 0, none⟩))) :
    Calls Tryd.prog 52 #[.pointer (some ⟨b, 0, none⟩)] w fun e w' => e = .returned (.tuple #[]) ∧ w' = w := by
  obtain ⟨j, hj, _⟩ := Option.map_eq_some_iff.1 bInfo
  go_enter Tryd.func52, Tryd.ntmps52
  go_wp2
  rw [Lib.run_neq_ptr_same w _ Tryd.underlying70 hj]
  go_wp2
  go_end0
  exact ⟨rfl, rfl⟩
set_option maxHeartbeats 1000000 in
set_option maxRecDepth 100000 in
theorem copyCheck_fresh (b : Nat) (w : World) (h0 : w.cell? ⟨b, 0, none⟩ = some (.pointer none)) (hsh : w.shape? b = some (72, 2)) (hfz : w.frozen? ⟨b, 0, none⟩ = false) :
    Calls Tryd.prog 52 #[.pointer (some ⟨b, 0, none⟩)] w fun e w' => e = .returned (.tuple #[]) ∧ w' = w.setCell ⟨b, 0, none⟩ (.pointer (some ⟨b, 0, none⟩)) := by
  obtain ⟨j, hj, hjs⟩ := Option.map_eq_some_iff.1 bInfo
  go_enter Tryd.func52, Tryd.ntmps52
  go_wp2
  rw [Lib.run_to_unsafe w ⟨b, 0, none⟩ Tryd.underlying70 Tryd.underlying94 hj (by rw [hjs]; decide) hsh (Nat.zero_lt_succ 1)]
  simp only [Result.andThen]
  rw [Oper.upon_value]
  go_wp2
  rw [run_callFunc_extern Tryd.func54 (by kernel_rfl) (by kernel_rfl) (by kernel_rfl) (e := Extern.AbiNoEscape.same) (by kernel_rfl)]
  rw [Lib.run_noEscape]
  simp only [Result.andThen]
  rw [Oper.upon_value]
  go_wp2
  rw [Lib.run_from_unsafe w ⟨b, 0, none⟩ Tryd.underlying94 Tryd.underlying70 hj hsh bLies]
  simp only [Result.andThen]
  rw [Oper.upon_value]
  go_wp2
  go_end0
  exact ⟨rfl, rfl⟩
end Go.Proofs.YtpakphgeichopaaDoor
set_option linter.unusedVariables false
set_option linter.unusedSimpArgs false
namespace Go.Proofs.YtpakphgeichopaaDoor
open Go.RowKit Go.SX Go.Proofs

abbrev BD (b : Nat) (p vb : Value) : Slot := some (b, .cells [p, vb].toArray 72 (0, 0))
abbrev selfP (b : Nat) : Value := .pointer (some ⟨b, 0, none⟩)
def Ptr (b : Nat) (p : Value) : Prop := p = .pointer none ∨ p = selfP b
theorem copyCheck_spec {Γ : Ctx} (hP : Γ.P = Tryd.prog) {b : Nat} {p vb : Value} {R : Hp} (hp : Ptr b p) : SCall Γ 52 #[selfP b] (BD b p vb :: R) (fun v L' => v = .tuple #[] ∧ L' = BD b (selfP b) vb :: R) := fun w hi => by
  have hb := hi.blk b _ (List.mem_cons_self ..)
  rw [hP]
  rcases hp with rfl | rfl
  · refine (copyCheck_fresh b w (by simp [World.cell?, hb]) (by simp [World.shape?, hb]) (by simp [World.frozen?, hb])).mono ?_
    rintro e w' ⟨rfl, rfl⟩
    refine ⟨_, _, rfl, hi.set (i := 0) (o' := .cells [selfP b, vb].toArray 72 (0, 0)) rfl ?_ (fun k hk => Below.heap_setCell _ _ _ _ hk) (World.size_setCell _ _ _) rfl rfl rfl, rfl, rfl⟩
    simp [World.setCell, Array.getElem?_modify, hb]
  · refine (copyCheck_used b w (by simp [World.cell?, hb])).mono ?_
    rintro e w' ⟨rfl, rfl⟩
    exact ⟨_, _, rfl, hi, rfl, rfl⟩
set_option maxHeartbeats 1000000 in
set_option maxRecDepth 100000 in
theorem WriteByte_spec {Γ : Ctx} (hP : Γ.P = Tryd.prog) {L : Hp} {b : Nat} {p vb : Value} {sb : Slot} {bs : List Int} {c : Int} (hp : Ptr b p) (hr : RowI .u8 5 vb bs sb) (hm : bs.length ≤ 140737488355327) :
    SCall Γ 38 #[(selfP b), (.int .u8 c)] (BD b p vb :: sb :: L) (fun v L' => v = .nilIface ∧ ∃ vb' sb', L' = BD b (selfP b) vb' :: sb' :: L ∧ RowI .u8 5 vb' (bs ++ [c]) sb') := by
  refine SCall.enter (n := 17) (res1 4) (hP ▸ Tryd.func38) rfl rfl (by simp) (res1_ok rfl) ?_
  refine SX.seq_k fun K1 hK1 => ?_
  refine SX.region_d [some 4] rfl (fun ops hops => ?_)
  unfold Dsts at hops
  simp (maxSteps := 1000000) (dsimp := false) (disch := omega) only [go_sem, ia_someH, hP, hops]
  refine hK1 _ _ ?_
  try clear hK1 K1
  refine SX.seq_k fun K2 hK2 => ?_
  refine SX.region_d [some 5, some 6] rfl (fun ops hops => ?_)
  unfold Dsts at hops
  simp (maxSteps := 1000000) (dsimp := false) (disch := omega) only [go_sem, ia_someH, hP, hops]
  refine SCall.mono (copyCheck_spec hP hp) ?_
  rintro v_ L_ ⟨hv_, hL_⟩
  rw [hv_, hL_]
  clear hv_ hL_ v_ L_
  try with_reducible refine stI ?_
  try simp (maxSteps := 1000000) (dsimp := false) (disch := omega) only [go_sem, ia_someH, hP, hops]
  refine hK2 _ _ ?_
  try clear hK2 K2
  refine SX.seq_k fun K3 hK3 => ?_
  refine SX.region_d [some 7, some 8, some 9, some 10, some 11, some 12, some 13, some 14, some 15, some 16, none] rfl (fun ops hops => ?_)
  unfold Dsts at hops
  simp (maxSteps := 1000000) (dsimp := false) (disch := omega) only [go_sem, ia_someH, hP, hops]
  refine ⟨_, Cell.at 0 rfl rfl, ?_⟩
  try with_reducible refine stI ?_
  try simp (maxSteps := 1000000) (dsimp := false) (disch := omega) only [go_sem, ia_someH, hP, hops]
  intro g2
  try with_reducible refine stI ?_
  try simp (maxSteps := 1000000) (dsimp := false) (disch := omega) only [go_sem, ia_someH, hP, hops]
  refine YAppend.int1 (i := 1) (hP ▸ T.elS_50) (hP ▸ T.zr_5) rfl rfl hr (by omega) (by decide) ?_
  intro v' s' hr'
  obtain ⟨A', c', rfl, hcc', _⟩ := Row.form hr'
  try with_reducible refine stI ?_
  try simp (maxSteps := 1000000) (dsimp := false) (disch := omega) only [go_sem, ia_someH, hP, hops]
  refine ⟨1, _, _, _, rfl, (by simp), .inr (by decide), ?_⟩
  try with_reducible refine stI ?_
  try simp (maxSteps := 1000000) (dsimp := false) (disch := omega) only [go_sem, ia_someH, hP, hops]
  refine hK3 _ _ ?_
  try clear hK3 K3
  refine SX.live [] (fun T1 hT1 => ?_)
  clear hT1
  refine SX.seq_k fun K4 hK4 => ?_
  refine SX.region_d [some 4] rfl (fun ops hops => ?_)
  unfold Dsts at hops
  simp (maxSteps := 1000000) (dsimp := false) (disch := omega) only [go_sem, ia_someH, hP, hops]
  refine hK4 _ _ ?_
  try clear hK4 K4
  refine SX.ret ?_
  simp only [andThen_normal, andThen_ret, andThen_exit, inBlk_normal, inBlk_ret, inBlk_exit, Nat.reduceEqDiff, if_true, if_false, ↓reduceIte, retQ_ret]
  try simp only [res0, res1, res2, res3, stK_e, go_sem, ia_someH, hP]
  exact ⟨_, _, Less.drop _ _, rfl, rfl, _, _, rfl, hr'⟩

theorem bytes_cells {bs : List Int} (h : Byte bs) : ints .u8 bs = Lib.byteCells (bs.map fun n : Int => UInt8.ofNat n.toNat) := by
  unfold ints Lib.byteCells
  rw [List.map_map]
  refine List.map_congr_left fun x hx => ?_
  show Value.int .u8 x = .int .u8 _
  rw [byte_back (h x hx)]
theorem String_spec {Γ : Ctx} (hP : Γ.P = Tryd.prog) (ho : Γ.own = []) {b : Nat} {p vb : Value} {sb : Slot} {bs : List Int} {R : Hp} (hp : Ptr b p) (hr : RowI .u8 5 vb bs sb) (hb : Byte bs) : SCall Γ 39 #[selfP b] (BD b p vb :: sb :: R) (fun v L' => v = .string (txt bs) ∧ L' = []) := fun w hi => by
  have hblk := hi.blk b _ (List.mem_cons_self ..)
  have src : ∀ g o, some (g, o) ∈ (BD b p vb :: sb :: R) → Γ.w0.heap.size ≤ g := fun g o hm => by
    rcases hi.src g o hm with h | h
    · rw [ho] at h; cases h
    · exact h
  have hBb := src b _ (List.mem_cons_self ..)
  have hrow : w.ownsRow Γ.w0.heap.size 5 1 vb (Lib.byteCells (bs.map fun n : Int => UInt8.ofNat n.toNat)).length (Lib.byteCells (bs.map fun n : Int => UInt8.ofNat n.toNat)) ∧ vb.ownBlock ≠ some b := by
    rw [← bytes_cells hb, ints_length]
    obtain ⟨hl, h⟩ := hr
    rcases h with ⟨h1, hn, h2⟩ | ⟨g, cap, junk, h1, h2, hc, hlen⟩
    · subst h1
      exact ⟨⟨hl, .inl ⟨rfl, hn⟩⟩, by simp [Value.ownBlock]⟩
    · subst h1 h2
      have hg : some (g, Obj.cells (ints .u8 bs ++ junk).toArray 5 (0, 0)) ∈ (BD b p (.slice (some ⟨g, 0, none⟩) bs.length cap) :: some (g, Obj.cells (ints .u8 bs ++ junk).toArray 5 (0, 0)) :: R) := List.mem_cons_of_mem _ (List.mem_cons_self ..)
      refine ⟨⟨hl, .inr ⟨g, cap, _, rfl, src g _ hg, hi.blk g _ hg, hc.1, hc.2, by rw [List.size_toArray]; exact hlen, ?_⟩⟩, ?_⟩
      · rw [List.take_append_of_le_length (by rw [hl]; exact Nat.le_refl _), List.take_of_length_le (by rw [hl]; exact Nat.le_refl _)]
      · intro he
        simp only [Value.ownBlock, Option.some.injEq] at he
        subst he
        have := hi.inj 0 1 _ _ _ rfl rfl
        omega
  have hB : Lib.IsBuilder 72 5 Γ.w0.heap.size b (Lib.byteCells (bs.map fun n : Int => UInt8.ofNat n.toNat)) w := by
    rcases hp with rfl | rfl
    · exact .inl ⟨hBb, vb, hblk, hrow⟩
    · exact .inr ⟨hBb, vb, hblk, hrow⟩
  rw [hP]
  refine (Tryd.Builder_String_any Γ.w0.heap.size b _ w hB hi.size).mono ?_
  rintro e w' ⟨rfl, hb'⟩
  refine ⟨_, [], rfl, ⟨fun i j b o o' h => by simp at h, fun b o h => by simp at h, fun b o h => by simp at h, hb'.os.trans hi.os, hb'.tape.trans hi.tape, hb'.output.trans hi.output, Nat.le_trans hi.size hb'.size, fun k hk hn => (hb'.block k hk).trans (hi.old k hk hn)⟩, rfl, rfl⟩
/-- What leaves nothing behind may be proved at its own first world. -/
theorem SCall.lift {Γ : Ctx} {f : FuncId} {args : Array Value} {L : Hp} {v : Value} (h : ∀ w, Inv Γ L w → SCall ⟨Γ.P, w, []⟩ f args [] (fun v' L' => v' = v ∧ L' = [])) : SCall Γ f args L (fun v' L' => v' = v ∧ L' = L) :=
  SCall.of_below fun w hi => SCall.below (h w hi)
theorem Cell.lift {Γ : Ctx} {L : Hp} {w : World} (hi : Inv Γ L w) {a : Addr} {v : Value} (h : Cell Γ L a v) : Cell ⟨Γ.P, w, []⟩ [] a v := Cell.old (by simp) (h.real hi)
/-! What is shown. -/
def bitL (b : Int) (k : Nat) : Int := if (b / 2 ^ (7 - k)) % 2 = 1 then 35 else 46
def byteL (b : Int) : List Int := (List.range 8).map (bitL b)
def rowL (r : List Int) : List Int := r.flatMap byteL
def rowsL : List (List Int) → List Int
  | [] => []
  | r :: l => rowL r ++ [10] ++ rowsL l
def showS (f : Fm) : ByteArray × Int := if mayF f = true then (txt (rowsL f.rows), 0) else (txt [], 1)
theorem rowsL_app : ∀ l m, rowsL (l ++ m) = rowsL l ++ rowsL m
  | [], m => rfl
  | r :: l, m => by rw [List.cons_append, rowsL, rowsL, rowsL_app l m]; simp
theorem rowsL_take {l : List (List Int)} {k : Nat} (h : k < l.length) : rowsL (l.take (k + 1)) = rowsL (l.take k) ++ rowL (l.getD k []) ++ [10] := by
  rw [List.take_add_one, getD_get (d := []) h, rowsL_app]
  simp [rowsL]
theorem rowL_take {r : List Int} {k : Nat} (h : k < r.length) : rowL (r.take (k + 1)) = rowL (r.take k) ++ byteL (r.getD k 0) := by
  rw [List.take_add_one, getD_get (d := 0) h, rowL, rowL, List.flatMap_append]
  simp
theorem byteL_len (b : Int) : (byteL b).length = 8 := by simp [byteL]
theorem rowL_len (r : List Int) : (rowL r).length = 8 * r.length := by
  induction r with
  | nil => rfl
  | cons b r ih => rw [rowL, List.flatMap_cons, List.length_append, byteL_len, List.length_cons]; have : (List.flatMap byteL r).length = 8 * r.length := ih; omega
theorem bitL_byte (b : Int) (k : Nat) : 0 ≤ bitL b k ∧ bitL b k ≤ 255 := by unfold bitL; split <;> omega
theorem Byte.app {l m : List Int} (h : Byte l) (k : Byte m) : Byte (l ++ m) := fun x hx => (List.mem_append.1 hx).elim (h x) (k x)
theorem byteL_byte (b : Int) : Byte (byteL b) := fun x hx => by
  obtain ⟨k, _, rfl⟩ := List.mem_map.1 hx
  exact bitL_byte b k
theorem rowL_byte (r : List Int) : Byte (rowL r) := fun x hx => by
  obtain ⟨b, _, hb⟩ := List.mem_flatMap.1 hx
  exact byteL_byte b x hb
theorem rowsL_byte : ∀ l, Byte (rowsL l)
  | [] => fun x hx => by cases hx
  | r :: l => Byte.app (Byte.app (rowL_byte r) (fun x hx => by rw [List.mem_singleton.1 hx]; omega)) (rowsL_byte l)
theorem rowsL_len {l : List (List Int)} (h : ∀ j, j < l.length → (l.getD j []).length ≤ 8) : ∀ k, k ≤ l.length → (rowsL (l.take k)).length ≤ 65 * k
  | 0, _ => by simp [rowsL]
  | k + 1, hk => by
    have h1 := rowsL_len h k (by omega)
    have h2 := h k (by omega)
    rw [rowsL_take (by omega), List.length_append, List.length_append, rowL_len]
    simp only [List.length_cons, List.length_nil]
    omega
theorem bit_all : ∀ b : Fin 256, ∀ k : Fin 8, decide (bits .and .u8 (IntKind.u8.wrap ((b.1 : Int) * 2 ^ k.1)) 128 = 0) = !decide (((b.1 : Int) / 2 ^ (7 - k.1)) % 2 = 1) := by decide +kernel
theorem bit_test {b : Int} {k : Nat} (hb : 0 ≤ b ∧ b ≤ 255) (hk : k < 8) : (bits .and .u8 (IntKind.u8.wrap (b * 2 ^ k)) 128 = 0) = ¬ ((b / 2 ^ (7 - k)) % 2 = 1) := by
  have h := bit_all ⟨b.toNat, by omega⟩ ⟨k, hk⟩
  simp only at h
  rw [show ((b.toNat : Nat) : Int) = b by omega] at h
  by_cases h1 : (b / 2 ^ (7 - k)) % 2 = 1
  · rw [decide_eq_true h1] at h
    simp only [Bool.not_true, decide_eq_false_iff_not] at h
    exact propext ⟨fun h' => absurd h' h, fun h' => absurd h1 h'⟩
  · rw [decide_eq_false h1] at h
    simp only [Bool.not_false, decide_eq_true_eq] at h
    exact propext ⟨fun _ => h1, fun _ => h⟩
theorem range_bit (b : Int) (k : Nat) : (List.range (k + 1)).map (bitL b) = (List.range k).map (bitL b) ++ [bitL b k] := by rw [List.range_succ, List.map_append]; rfl

end Go.Proofs.YtpakphgeichopaaDoor
set_option linter.unusedVariables false
set_option linter.unusedSimpArgs false
namespace Go.Proofs.YtpakphgeichopaaDoor
open Go.RowKit Go.SX Go.Proofs
open Go.SX renaming ia_someH → Φa
set_option maxHeartbeats 1000000 in
set_option maxRecDepth 100000 in
theorem ShowB_spec {Γ : Ctx} (hP : Γ.P = Tryd.prog) {L : Hp} (ho : Γ.own = []) {v : Value} {f : Fm} (hr : SlR (Cell Γ []) v f.rows) (hm : cnt f.rows ≤ 9000000000000000000) (hrl : f.rows.length ≤ 9000000000000000000) (hby : ∀ i, i < f.rows.length → ∀ j, j < (f.rows.getD i []).length → 0 ≤ (f.rows.getD i []).getD j 0 ∧ (f.rows.getD i []).getD j 0 ≤ 255) :
    SCall Γ 18 #[(.agg (f.cells v).toArray)] ([]) (fun v L' => v = .tuple #[.string (showS f).1, .int .i64 (showS f).2] ∧ L' = []) := by
  obtain ⟨A, c, rfl, hc⟩ := Sl.shape hr
  obtain ⟨a1, e1, _, hA⟩ := slR_at hr
  refine SCall.enter (n := 41) (res2 2 3) (hP ▸ Tryd.func18) rfl rfl (by simp) (res2_ok rfl) ?_
  refine SX.seq_k fun K1 hK1 => ?_
  refine SX.region_d [some 1, some 2, some 3] rfl (fun ops hops => ?_)
  unfold Dsts at hops
  simp (maxSteps:=1000000)(dsimp:=false)(disch:=omega) only [go_sem, Φa, hP, hops]
  intro b0
  try with_reducible refine stI ?_
  try simp (maxSteps:=1000000)(dsimp:=false)(disch:=omega) only [go_sem, Φa, hP, hops]
  refine hK1 _ _ ?_
  try clear hK1 K1
  refine SX.seq_k fun K2 hK2 => ?_
  refine SX.seq_k fun K3 hK3 => ?_
  refine SX.region_d [some 10, some 11, some 12] rfl (fun ops hops => ?_)
  unfold Dsts at hops
  simp (maxSteps:=1000000)(dsimp:=false)(disch:=omega) only [go_sem, Φa, hP, hops]
  refine ⟨_, Cell.at 0 rfl (show (Fm.cells _ _)[0]? = _ from rfl), _, Cell.at 0 rfl (show (Fm.cells _ _)[1]? = _ from rfl), _, Cell.at 0 rfl (show (Fm.cells _ _)[2]? = _ from rfl), ?_⟩
  try with_reducible refine stI ?_
  try simp (maxSteps:=1000000)(dsimp:=false)(disch:=omega) only [go_sem, Φa, hP, hops]
  refine SCall.mono (check_spec (f := f) hP (SlR.mono (fun a v h => Cell.any h) hr) hm hrl) ?_
  rintro v_ L_ ⟨hv_, hL_⟩
  rw [hv_, hL_]
  clear hv_ hL_ v_ L_
  try with_reducible refine stI ?_
  try simp (maxSteps:=1000000)(dsimp:=false)(disch:=omega) only [go_sem, Φa, hP, hops]
  refine hK3 _ _ ?_
  try clear hK3 K3
  refine SX.cond_k fun X4 Y4 hX4 hY4 => ?_
  simp (maxSteps:=1000000)(dsimp:=false)(disch:=omega) only [go_sem, Φa, hP, condVC]
  refine ⟨fun hc12 => hX4 ?_, fun hc12 => hY4 ?_⟩
  · clear hX4 hY4 X4 Y4
    refine SX.seq_k fun K5 hK5 => ?_
    refine SX.region_d [some 2, some 3] rfl (fun ops hops => ?_)
    unfold Dsts at hops
    simp (maxSteps:=1000000)(dsimp:=false)(disch:=omega) only [go_sem, Φa, hP, hops]
    refine hK5 _ _ ?_
    try clear hK5 K5
    refine SX.ret ?_
    simp only [andThen_normal, andThen_ret, andThen_exit, inBlk_normal, inBlk_ret, inBlk_exit, Nat.reduceEqDiff, if_true, if_false, ↓reduceIte, retQ_ret]
    try simp only [res0, res1, res2, res3, stK_e, go_sem, Φa, hP]
    refine ⟨_, _, Less.drop _ _, rfl, ?_, rfl⟩
    have h0 : mayF f = false := by simpa using hc12
    unfold showS
    rw [if_neg (by rw [h0]; exact Bool.false_ne_true)]
    rfl
  · clear hX4 hY4 X4 Y4
    refine SX.skip ?_
    try simp only [andThen_normal, andThen_ret, andThen_exit, inBlk_normal, inBlk_ret, inBlk_exit, Nat.reduceEqDiff, if_true, if_false, ↓reduceIte]
    refine hK2 _ _ ?_
    try clear hK2 K2
    refine SX.seq_k fun K6 hK6 => ?_
    have hmt : mayF f = true := by simpa using hc12
    have hmf := of_mayF hmt
    refine SX.region_d [some 4] rfl (fun ops hops => ?_)
    unfold Dsts at hops
    simp (maxSteps:=1000000)(dsimp:=false)(disch:=omega) only [go_sem, Φa, hP, hops]
    intro bb
    try with_reducible refine stI ?_
    try simp (maxSteps:=1000000)(dsimp:=false)(disch:=omega) only [go_sem, Φa, hP, hops]
    refine hK6 _ _ ?_
    try clear hK6 K6
    refine SX.seq_k fun K7 hK7 => ?_
    refine SX.seq_k fun K8 hK8 => ?_
    refine SX.less less_ins ?_
    refine SX.region_d [some 13, some 14, some 15, some 16] rfl (fun ops hops => ?_)
    unfold Dsts at hops
    simp (maxSteps:=1000000)(dsimp:=false)(disch:=omega) only [go_sem, Φa, hP, hops]
    refine ⟨_, Cell.at 2 rfl (show (Fm.cells _ _)[1]? = _ from rfl), ?_⟩
    try with_reducible refine stI ?_
    try simp (maxSteps:=1000000)(dsimp:=false)(disch:=omega) only [go_sem, Φa, hP, hops]
    refine hK8 _ _ ?_
    try clear hK8 K8
    refine SX.live [4, 14, 15, 16] (fun T1 hT1 => ?_)
    simp only [forall_mem_cons', forall_mem_nil', go_sem, Φa, hP] at hT1
    obtain ⟨h1_4, h1_14, h1_15, h1_16⟩ := hT1
    refine SX.block ?_
    refine SX.live [4, 14, 15, 16] (fun T2 hT2 => ?_)
    simp only [forall_mem_cons', forall_mem_nil', go_sem, Φa, hP, h1_4, h1_14, h1_15, h1_16] at hT2
    obtain ⟨h2_4, h2_14, h2_15, h2_16⟩ := hT2
    clear h1_4 h1_14 h1_15 h1_16 T1
    refine SX.loop_k (fun (ss : (Nat) × (Value) × (Value) × (Slot)) T L' => (fun (i : Nat) (p : Value) (vb : Value) (sb : Slot) => T 16 = .int .i64 (i : Int) ∧ T 4 = T2 4 ∧ T 14 = T2 14 ∧ T 15 = T2 15 ∧ L' = BD bb p vb :: sb :: some (b0, .cells (f.cells (.slice A f.rows.length c)).toArray 41 (0, 0)) :: [] ∧ (i ≤ f.rows.length ∧ Ptr bb p ∧ RowI .u8 5 vb (rowsL (f.rows.take i)) sb)) (ss.1) (ss.2.1) (ss.2.2.1) (ss.2.2.2)) (fun (ss : (Nat) × (Value) × (Value) × (Slot)) => (fun (i : Nat) (p : Value) (vb : Value) (sb : Slot) => f.rows.length - i) (ss.1) (ss.2.1) (ss.2.2.1) (ss.2.2.2)) (0, .pointer none, .slice none 0 0, none) ?_ ?_
    · try dsimp only
      refine ⟨?_, ?_, ?_, ?_, ?_, ?_⟩
      · first | exact h2_16 | (rw [h2_16]; rfl) | (rw [h2_16]; simp; done)
      · rfl
      · rfl
      · rfl
      · rfl
      · exact ⟨Nat.zero_le _, .inl rfl, RowI.nil _ _⟩
    · intro ss T3 L3 hI K9 hK9
      obtain ⟨i, p, vb, sb⟩ := ss
      try dsimp only at hI hK9
      simp only [h2_4, h2_14, h2_15] at hI hK9
      obtain ⟨h3_16, h3_4, h3_14, h3_15, hL3, ⟨hi, hp, hrow⟩⟩ := hI
      replace hL3 := hL3.symm
      subst hL3
      clear h2_4 h2_14 h2_15 h2_16 T2
      refine SX.seq_k fun K10 hK10 => ?_
      refine SX.region_d [some 17] rfl (fun ops hops => ?_)
      unfold Dsts at hops
      simp (maxSteps:=1000000)(dsimp:=false)(disch:=omega) only [go_sem, Φa, hP, h3_16, h3_4, h3_14, h3_15, hops]
      repeat' ((first | refine And.intro (by omega) ?_ | fail); try (with_reducible refine stI ?_); try simp (maxSteps:=1000000)(dsimp:=false)(disch:=omega) only [go_sem, Φa, hP, h3_16, h3_4, h3_14, h3_15, hops])
      refine hK10 _ _ ?_
      try clear hK10 K10
      refine SX.seq_k fun K11 hK11 => ?_
      refine SX.cond_k fun X12 Y12 hX12 hY12 => ?_
      simp (maxSteps:=1000000)(dsimp:=false)(disch:=omega) only [go_sem, Φa, hP, h3_16, h3_4, h3_14, h3_15, condVC]
      refine ⟨fun hc17 => hX12 ?_, fun hc17 => hY12 ?_⟩
      · clear hX12 hY12 X12 Y12
        refine SX.skip ?_
        try simp only [andThen_normal, andThen_ret, andThen_exit, inBlk_normal, inBlk_ret, inBlk_exit, Nat.reduceEqDiff, if_true, if_false, ↓reduceIte]
        refine hK11 _ _ ?_
        try clear hK11 K11
        refine SX.seq_k fun K13 hK13 => ?_
        refine SX.block ?_
        refine SX.seq_k fun K14 hK14 => ?_
        have hil : i < f.rows.length := by omega
        obtain ⟨Ai, ci, hci, hcil, hsi⟩ := hA i hil
        obtain ⟨a2, e2, _, hB⟩ := sl_at hsi
        have hr8 := hmf.2.2.2 i hil
        have hlr := rowsL_len hmf.2.2.2 i (by omega)
        refine SX.region_d [some 18, some 19, some 6] rfl (fun ops hops => ?_)
        unfold Dsts at hops
        simp (maxSteps:=1000000)(dsimp:=false)(disch:=omega) only [go_sem, Φa, hP, h3_16, h3_4, h3_14, h3_15, hops, ia_at e1]
        refine ⟨_, Cell.any hci, ?_⟩
        try with_reducible refine stI ?_
        try simp (maxSteps:=1000000)(dsimp:=false)(disch:=omega) only [go_sem, Φa, hP, h3_16, h3_4, h3_14, h3_15, hops, ia_at e1]
        refine hK14 _ _ ?_
        try clear hK14 K14
        refine SX.seq_k fun K15 hK15 => ?_
        refine SX.seq_k fun K16 hK16 => ?_
        refine SX.region_d [some 20, some 21, some 22] rfl (fun ops hops => ?_)
        unfold Dsts at hops
        simp (maxSteps:=1000000)(dsimp:=false)(disch:=omega) only [go_sem, Φa, hP, h3_16, h3_4, h3_14, h3_15, hops]
        repeat' ((first | refine And.intro (by omega) ?_ | fail); try (with_reducible refine stI ?_); try simp (maxSteps:=1000000)(dsimp:=false)(disch:=omega) only [go_sem, Φa, hP, h3_16, h3_4, h3_14, h3_15, hops])
        refine hK16 _ _ ?_
        try clear hK16 K16
        refine SX.block ?_
        refine SX.live [4, 14, 15, 16, 20, 21, 22] (fun T4 hT4 => ?_)
        simp only [forall_mem_cons', forall_mem_nil', go_sem, Φa, hP, h3_16, h3_4, h3_14, h3_15] at hT4
        obtain ⟨h4_4, h4_14, h4_15, h4_16, h4_20, h4_21, h4_22⟩ := hT4
        clear h3_16 h3_4 h3_14 h3_15 T3
        refine SX.loop_k (fun (ss : (Nat) × (Value) × (Value) × (Slot)) T L' => (fun (j : Nat) (p2 : Value) (vb2 : Value) (sb2 : Slot) => T 22 = .int .i64 (j : Int) ∧ T 4 = T4 4 ∧ T 14 = T4 14 ∧ T 15 = T4 15 ∧ T 16 = T4 16 ∧ T 20 = T4 20 ∧ T 21 = T4 21 ∧ L' = BD bb p2 vb2 :: sb2 :: some (b0, .cells (f.cells (.slice A f.rows.length c)).toArray 41 (0, 0)) :: [] ∧ (j ≤ (f.rows.getD i []).length ∧ Ptr bb p2 ∧ RowI .u8 5 vb2 (rowsL (f.rows.take i) ++ rowL ((f.rows.getD i []).take j)) sb2)) (ss.1) (ss.2.1) (ss.2.2.1) (ss.2.2.2)) (fun (ss : (Nat) × (Value) × (Value) × (Slot)) => (fun (j : Nat) (p2 : Value) (vb2 : Value) (sb2 : Slot) => (f.rows.getD i []).length - j) (ss.1) (ss.2.1) (ss.2.2.1) (ss.2.2.2)) (0, p, vb, sb) ?_ ?_
        · try dsimp only
          refine ⟨?_, ?_, ?_, ?_, ?_, ?_, ?_, ?_, ?_⟩
          · first | exact h4_22 | (rw [h4_22]; rfl) | (rw [h4_22]; simp; done)
          · rfl
          · rfl
          · rfl
          · rfl
          · rfl
          · rfl
          · rfl
          · refine ⟨Nat.zero_le _, hp, ?_⟩
            rw [List.take_zero]
            show RowI .u8 5 vb (_ ++ []) sb
            rw [List.append_nil]
            exact hrow
        · intro ss T5 L5 hI K17 hK17
          obtain ⟨j, p2, vb2, sb2⟩ := ss
          try dsimp only at hI hK17
          simp only [h4_4, h4_14, h4_15, h4_16, h4_20, h4_21] at hI hK17
          obtain ⟨h5_22, h5_4, h5_14, h5_15, h5_16, h5_20, h5_21, hL5, ⟨hj, hp2, hrow2⟩⟩ := hI
          replace hL5 := hL5.symm
          subst hL5
          clear h4_4 h4_14 h4_15 h4_16 h4_20 h4_21 h4_22 T4
          refine SX.seq_k fun K18 hK18 => ?_
          refine SX.region_d [some 23] rfl (fun ops hops => ?_)
          unfold Dsts at hops
          simp (maxSteps:=1000000)(dsimp:=false)(disch:=omega) only [go_sem, Φa, hP, h5_22, h5_4, h5_14, h5_15, h5_16, h5_20, h5_21, hops]
          repeat' ((first | refine And.intro (by omega) ?_ | fail); try (with_reducible refine stI ?_); try simp (maxSteps:=1000000)(dsimp:=false)(disch:=omega) only [go_sem, Φa, hP, h5_22, h5_4, h5_14, h5_15, h5_16, h5_20, h5_21, hops])
          refine hK18 _ _ ?_
          try clear hK18 K18
          refine SX.seq_k fun K19 hK19 => ?_
          refine SX.cond_k fun X20 Y20 hX20 hY20 => ?_
          simp (maxSteps:=1000000)(dsimp:=false)(disch:=omega) only [go_sem, Φa, hP, h5_22, h5_4, h5_14, h5_15, h5_16, h5_20, h5_21, condVC]
          refine ⟨fun hc23 => hX20 ?_, fun hc23 => hY20 ?_⟩
          · clear hX20 hY20 X20 Y20
            refine SX.skip ?_
            try simp only [andThen_normal, andThen_ret, andThen_exit, inBlk_normal, inBlk_ret, inBlk_exit, Nat.reduceEqDiff, if_true, if_false, ↓reduceIte]
            refine hK19 _ _ ?_
            try clear hK19 K19
            refine SX.seq_k fun K21 hK21 => ?_
            refine SX.block ?_
            refine SX.seq_k fun K22 hK22 => ?_
            have hjl : j < (f.rows.getD i []).length := by omega
            have hbj := hB j hjl
            have hbb := hby i hil j hjl
            refine SX.region_d [some 24, some 25, some 8] rfl (fun ops hops => ?_)
            unfold Dsts at hops
            simp (maxSteps:=1000000)(dsimp:=false)(disch:=omega) only [go_sem, Φa, hP, h5_22, h5_4, h5_14, h5_15, h5_16, h5_20, h5_21, hops, ia_at e2]
            refine ⟨_, Cell.any hbj, ?_⟩
            try with_reducible refine stI ?_
            try simp (maxSteps:=1000000)(dsimp:=false)(disch:=omega) only [go_sem, Φa, hP, h5_22, h5_4, h5_14, h5_15, h5_16, h5_20, h5_21, hops, ia_at e2]
            refine hK22 _ _ ?_
            try clear hK22 K22
            refine SX.seq_k fun K23 hK23 => ?_
            refine SX.region_d [some 26] rfl (fun ops hops => ?_)
            unfold Dsts at hops
            simp (maxSteps:=1000000)(dsimp:=false)(disch:=omega) only [go_sem, Φa, hP, h5_22, h5_4, h5_14, h5_15, h5_16, h5_20, h5_21, hops]
            refine hK23 _ _ ?_
            try clear hK23 K23
            refine SX.block ?_
            refine SX.live [4, 8, 14, 15, 16, 20, 21, 22, 26] (fun T6 hT6 => ?_)
            simp only [forall_mem_cons', forall_mem_nil', go_sem, Φa, hP, h5_22, h5_4, h5_14, h5_15, h5_16, h5_20, h5_21] at hT6
            obtain ⟨h6_4, h6_8, h6_14, h6_15, h6_16, h6_20, h6_21, h6_22, h6_26⟩ := hT6
            clear h5_22 h5_4 h5_14 h5_15 h5_16 h5_20 h5_21 T5
            refine SX.loop_k (fun (ss : (Nat) × (Value) × (Value) × (Slot)) T L' => (fun (k : Nat) (p3 : Value) (vb3 : Value) (sb3 : Slot) => T 26 = .int .i64 (k : Int) ∧ T 4 = T6 4 ∧ T 8 = T6 8 ∧ T 14 = T6 14 ∧ T 15 = T6 15 ∧ T 16 = T6 16 ∧ T 20 = T6 20 ∧ T 21 = T6 21 ∧ T 22 = T6 22 ∧ L' = BD bb p3 vb3 :: sb3 :: some (b0, .cells (f.cells (.slice A f.rows.length c)).toArray 41 (0, 0)) :: [] ∧ (k ≤ 8 ∧ Ptr bb p3 ∧ RowI .u8 5 vb3 (rowsL (f.rows.take i) ++ rowL ((f.rows.getD i []).take j) ++ (List.range k).map (bitL ((f.rows.getD i []).getD j 0))) sb3)) (ss.1) (ss.2.1) (ss.2.2.1) (ss.2.2.2)) (fun (ss : (Nat) × (Value) × (Value) × (Slot)) => (fun (k : Nat) (p3 : Value) (vb3 : Value) (sb3 : Slot) => 8 - k) (ss.1) (ss.2.1) (ss.2.2.1) (ss.2.2.2)) (0, p2, vb2, sb2) ?_ ?_
            · try dsimp only
              refine ⟨?_, ?_, ?_, ?_, ?_, ?_, ?_, ?_, ?_, ?_, ?_⟩
              · first | exact h6_26 | (rw [h6_26]; rfl) | (rw [h6_26]; simp; done)
              · rfl
              · rfl
              · rfl
              · rfl
              · rfl
              · rfl
              · rfl
              · rfl
              · rfl
              · refine ⟨Nat.zero_le _, hp2, ?_⟩
                rw [List.range_zero, List.map_nil, List.append_nil]
                exact hrow2
            · intro ss T7 L7 hI K24 hK24
              obtain ⟨k, p3, vb3, sb3⟩ := ss
              try dsimp only at hI hK24
              simp only [h6_4, h6_8, h6_14, h6_15, h6_16, h6_20, h6_21, h6_22] at hI hK24
              obtain ⟨h7_26, h7_4, h7_8, h7_14, h7_15, h7_16, h7_20, h7_21, h7_22, hL7, ⟨hk, hp3, hrow3⟩⟩ := hI
              replace hL7 := hL7.symm
              subst hL7
              clear h6_4 h6_8 h6_14 h6_15 h6_16 h6_20 h6_21 h6_22 h6_26 T6
              refine SX.seq_k fun K25 hK25 => ?_
              refine SX.region_d [some 27] rfl (fun ops hops => ?_)
              unfold Dsts at hops
              simp (maxSteps:=1000000)(dsimp:=false)(disch:=omega) only [go_sem, Φa, hP, h7_26, h7_4, h7_8, h7_14, h7_15, h7_16, h7_20, h7_21, h7_22, hops]
              repeat' ((first | refine And.intro (by omega) ?_ | fail); try (with_reducible refine stI ?_); try simp (maxSteps:=1000000)(dsimp:=false)(disch:=omega) only [go_sem, Φa, hP, h7_26, h7_4, h7_8, h7_14, h7_15, h7_16, h7_20, h7_21, h7_22, hops])
              refine hK25 _ _ ?_
              try clear hK25 K25
              refine SX.seq_k fun K26 hK26 => ?_
              refine SX.cond_k fun X27 Y27 hX27 hY27 => ?_
              simp (maxSteps:=1000000)(dsimp:=false)(disch:=omega) only [go_sem, Φa, hP, h7_26, h7_4, h7_8, h7_14, h7_15, h7_16, h7_20, h7_21, h7_22, condVC]
              refine ⟨fun hc27 => hX27 ?_, fun hc27 => hY27 ?_⟩
              · clear hX27 hY27 X27 Y27
                refine SX.skip ?_
                try simp only [andThen_normal, andThen_ret, andThen_exit, inBlk_normal, inBlk_ret, inBlk_exit, Nat.reduceEqDiff, if_true, if_false, ↓reduceIte]
                refine hK26 _ _ ?_
                try clear hK26 K26
                refine SX.seq_k fun K28 hK28 => ?_
                refine SX.block ?_
                refine SX.seq_k fun K29 hK29 => ?_
                refine SX.region_d [some 28, some 9] rfl (fun ops hops => ?_)
                unfold Dsts at hops
                simp (maxSteps:=1000000)(dsimp:=false)(disch:=omega) only [go_sem, Φa, hP, h7_26, h7_4, h7_8, h7_14, h7_15, h7_16, h7_20, h7_21, h7_22, hops]
                refine hK29 _ _ ?_
                try clear hK29 K29
                refine SX.seq_k fun K30 hK30 => ?_
                have hk8 : k < 8 := by omega
                have hmin : min k 8 = k := by omega
                refine SX.region_d [some 29, some 30, some 31, some 32, some 33] rfl (fun ops hops => ?_)
                unfold Dsts at hops
                simp (maxSteps:=1000000)(dsimp:=false)(disch:=omega) only [go_sem, Φa, hP, h7_26, h7_4, h7_8, h7_14, h7_15, h7_16, h7_20, h7_21, h7_22, hops, hmin, bit_test hbb hk8]
                repeat' ((first | refine And.intro (by omega) ?_ | fail); try (with_reducible refine stI ?_); try simp (maxSteps:=1000000)(dsimp:=false)(disch:=omega) only [go_sem, Φa, hP, h7_26, h7_4, h7_8, h7_14, h7_15, h7_16, h7_20, h7_21, h7_22, hops, hmin, bit_test hbb hk8])
                refine hK30 _ _ ?_
                try clear hK30 K30
                refine SX.cond_k fun X31 Y31 hX31 hY31 => ?_
                simp (maxSteps:=1000000)(dsimp:=false)(disch:=omega) only [go_sem, Φa, hP, h7_26, h7_4, h7_8, h7_14, h7_15, h7_16, h7_20, h7_21, h7_22, condVC]
                refine ⟨fun hc33 => hX31 ?_, fun hc33 => hY31 ?_⟩
                · clear hX31 hY31 X31 Y31
                  refine SX.region_d [some 34] rfl (fun ops hops => ?_)
                  unfold Dsts at hops
                  simp (maxSteps:=1000000)(dsimp:=false)(disch:=omega) only [go_sem, Φa, hP, h7_26, h7_4, h7_8, h7_14, h7_15, h7_16, h7_20, h7_21, h7_22, hops]
                  refine SCall.mono (WriteByte_spec hP hp3 hrow3 (by simp only [List.length_append, rowL_len, List.length_map, List.length_range, List.length_take]; omega)) ?_
                  rintro v_ L_ ⟨rfl, vb', sb', rfl, hrow'⟩
                  try with_reducible refine stI ?_
                  try simp (maxSteps:=1000000)(dsimp:=false)(disch:=omega) only [go_sem, Φa, hP, h7_26, h7_4, h7_8, h7_14, h7_15, h7_16, h7_20, h7_21, h7_22, hops]
                  refine hK28 _ _ ?_
                  try clear hK28 K28
                  refine SX.live [4, 8, 14, 15, 16, 20, 21, 22, 26] (fun T8 hT8 => ?_)
                  simp only [forall_mem_cons', forall_mem_nil', go_sem, Φa, hP, h7_26, h7_4, h7_8, h7_14, h7_15, h7_16, h7_20, h7_21, h7_22] at hT8
                  obtain ⟨h8_4, h8_8, h8_14, h8_15, h8_16, h8_20, h8_21, h8_22, h8_26⟩ := hT8
                  clear h7_26 h7_4 h7_8 h7_14 h7_15 h7_16 h7_20 h7_21 h7_22 T7
                  refine SX.region_d [some 36, some 26] rfl (fun ops hops => ?_)
                  unfold Dsts at hops
                  simp (maxSteps:=1000000)(dsimp:=false)(disch:=omega) only [go_sem, Φa, hP, h8_4, h8_8, h8_14, h8_15, h8_16, h8_20, h8_21, h8_22, h8_26, hops]
                  repeat' ((first | refine And.intro (by omega) ?_ | fail); try (with_reducible refine stI ?_); try simp (maxSteps:=1000000)(dsimp:=false)(disch:=omega) only [go_sem, Φa, hP, h8_4, h8_8, h8_14, h8_15, h8_16, h8_20, h8_21, h8_22, h8_26, hops])
                  refine hK24 (k + 1, selfP bb, vb', sb') _ (BD bb (selfP bb) vb' :: sb' :: some (b0, .cells (f.cells (.slice A f.rows.length c)).toArray 41 (0, 0)) :: []) _ (by first | exact Less.refl _ | exact Less.drop _ _ | exact Less.drops (Less.drop _ _) | exact Less.drops (Less.drops (Less.drop _ _)) | exact Less.drops (Less.drops (Less.drops (Less.drop _ _))) | exact Less.drops (Less.drops (Less.drops (Less.drops (Less.drop _ _))))) ?_ ?_
                  · try dsimp only
                    refine ⟨?_, ?_, ?_, ?_, ?_, ?_, ?_, ?_, ?_, ?_, ?_⟩
                    · simp (maxSteps:=1000000)(dsimp:=false)(disch:=omega) only [go_sem, Φa, hP, h8_4, h8_8, h8_14, h8_15, h8_16, h8_20, h8_21, h8_22, h8_26]
                      first | done | rfl | skip
                    · simp (maxSteps:=1000000)(dsimp:=false)(disch:=omega) only [go_sem, Φa, hP, h8_4, h8_8, h8_14, h8_15, h8_16, h8_20, h8_21, h8_22, h8_26]
                    · simp (maxSteps:=1000000)(dsimp:=false)(disch:=omega) only [go_sem, Φa, hP, h8_4, h8_8, h8_14, h8_15, h8_16, h8_20, h8_21, h8_22, h8_26]
                    · simp (maxSteps:=1000000)(dsimp:=false)(disch:=omega) only [go_sem, Φa, hP, h8_4, h8_8, h8_14, h8_15, h8_16, h8_20, h8_21, h8_22, h8_26]
                    · simp (maxSteps:=1000000)(dsimp:=false)(disch:=omega) only [go_sem, Φa, hP, h8_4, h8_8, h8_14, h8_15, h8_16, h8_20, h8_21, h8_22, h8_26]
                    · simp (maxSteps:=1000000)(dsimp:=false)(disch:=omega) only [go_sem, Φa, hP, h8_4, h8_8, h8_14, h8_15, h8_16, h8_20, h8_21, h8_22, h8_26]
                    · simp (maxSteps:=1000000)(dsimp:=false)(disch:=omega) only [go_sem, Φa, hP, h8_4, h8_8, h8_14, h8_15, h8_16, h8_20, h8_21, h8_22, h8_26]
                    · simp (maxSteps:=1000000)(dsimp:=false)(disch:=omega) only [go_sem, Φa, hP, h8_4, h8_8, h8_14, h8_15, h8_16, h8_20, h8_21, h8_22, h8_26]
                    · simp (maxSteps:=1000000)(dsimp:=false)(disch:=omega) only [go_sem, Φa, hP, h8_4, h8_8, h8_14, h8_15, h8_16, h8_20, h8_21, h8_22, h8_26]
                    · rfl
                    · refine ⟨by omega, .inr rfl, ?_⟩
                      rw [range_bit, ← List.append_assoc, show bitL ((f.rows.getD i []).getD j 0) k = 35 from if_pos (by simpa using hc33)]
                      exact hrow'
                  · (try dsimp only); omega
                · clear hX31 hY31 X31 Y31
                  refine SX.region_d [some 35] rfl (fun ops hops => ?_)
                  unfold Dsts at hops
                  simp (maxSteps:=1000000)(dsimp:=false)(disch:=omega) only [go_sem, Φa, hP, h7_26, h7_4, h7_8, h7_14, h7_15, h7_16, h7_20, h7_21, h7_22, hops]
                  refine SCall.mono (WriteByte_spec hP hp3 hrow3 (by simp only [List.length_append, rowL_len, List.length_map, List.length_range, List.length_take]; omega)) ?_
                  rintro v_ L_ ⟨rfl, vb', sb', rfl, hrow'⟩
                  try with_reducible refine stI ?_
                  try simp (maxSteps:=1000000)(dsimp:=false)(disch:=omega) only [go_sem, Φa, hP, h7_26, h7_4, h7_8, h7_14, h7_15, h7_16, h7_20, h7_21, h7_22, hops]
                  refine hK28 _ _ ?_
                  try clear hK28 K28
                  refine SX.live [4, 8, 14, 15, 16, 20, 21, 22, 26] (fun T9 hT9 => ?_)
                  simp only [forall_mem_cons', forall_mem_nil', go_sem, Φa, hP, h7_26, h7_4, h7_8, h7_14, h7_15, h7_16, h7_20, h7_21, h7_22] at hT9
                  obtain ⟨h9_4, h9_8, h9_14, h9_15, h9_16, h9_20, h9_21, h9_22, h9_26⟩ := hT9
                  clear h7_26 h7_4 h7_8 h7_14 h7_15 h7_16 h7_20 h7_21 h7_22 T7
                  refine SX.region_d [some 36, some 26] rfl (fun ops hops => ?_)
                  unfold Dsts at hops
                  simp (maxSteps:=1000000)(dsimp:=false)(disch:=omega) only [go_sem, Φa, hP, h9_4, h9_8, h9_14, h9_15, h9_16, h9_20, h9_21, h9_22, h9_26, hops]
                  repeat' ((first | refine And.intro (by omega) ?_ | fail); try (with_reducible refine stI ?_); try simp (maxSteps:=1000000)(dsimp:=false)(disch:=omega) only [go_sem, Φa, hP, h9_4, h9_8, h9_14, h9_15, h9_16, h9_20, h9_21, h9_22, h9_26, hops])
                  refine hK24 (k + 1, selfP bb, vb', sb') _ (BD bb (selfP bb) vb' :: sb' :: some (b0, .cells (f.cells (.slice A f.rows.length c)).toArray 41 (0, 0)) :: []) _ (by first | exact Less.refl _ | exact Less.drop _ _ | exact Less.drops (Less.drop _ _) | exact Less.drops (Less.drops (Less.drop _ _)) | exact Less.drops (Less.drops (Less.drops (Less.drop _ _))) | exact Less.drops (Less.drops (Less.drops (Less.drops (Less.drop _ _))))) ?_ ?_
                  · try dsimp only
                    refine ⟨?_, ?_, ?_, ?_, ?_, ?_, ?_, ?_, ?_, ?_, ?_⟩
                    · simp (maxSteps:=1000000)(dsimp:=false)(disch:=omega) only [go_sem, Φa, hP, h9_4, h9_8, h9_14, h9_15, h9_16, h9_20, h9_21, h9_22, h9_26]
                      first | done | rfl | skip
                    · simp (maxSteps:=1000000)(dsimp:=false)(disch:=omega) only [go_sem, Φa, hP, h9_4, h9_8, h9_14, h9_15, h9_16, h9_20, h9_21, h9_22, h9_26]
                    · simp (maxSteps:=1000000)(dsimp:=false)(disch:=omega) only [go_sem, Φa, hP, h9_4, h9_8, h9_14, h9_15, h9_16, h9_20, h9_21, h9_22, h9_26]
                    · simp (maxSteps:=1000000)(dsimp:=false)(disch:=omega) only [go_sem, Φa, hP, h9_4, h9_8, h9_14, h9_15, h9_16, h9_20, h9_21, h9_22, h9_26]
                    · simp (maxSteps:=1000000)(dsimp:=false)(disch:=omega) only [go_sem, Φa, hP, h9_4, h9_8, h9_14, h9_15, h9_16, h9_20, h9_21, h9_22, h9_26]
                    · simp (maxSteps:=1000000)(dsimp:=false)(disch:=omega) only [go_sem, Φa, hP, h9_4, h9_8, h9_14, h9_15, h9_16, h9_20, h9_21, h9_22, h9_26]
                    · simp (maxSteps:=1000000)(dsimp:=false)(disch:=omega) only [go_sem, Φa, hP, h9_4, h9_8, h9_14, h9_15, h9_16, h9_20, h9_21, h9_22, h9_26]
                    · simp (maxSteps:=1000000)(dsimp:=false)(disch:=omega) only [go_sem, Φa, hP, h9_4, h9_8, h9_14, h9_15, h9_16, h9_20, h9_21, h9_22, h9_26]
                    · simp (maxSteps:=1000000)(dsimp:=false)(disch:=omega) only [go_sem, Φa, hP, h9_4, h9_8, h9_14, h9_15, h9_16, h9_20, h9_21, h9_22, h9_26]
                    · rfl
                    · refine ⟨by omega, .inr rfl, ?_⟩
                      rw [range_bit, ← List.append_assoc, show bitL ((f.rows.getD i []).getD j 0) k = 46 from if_neg (by simpa using hc33)]
                      exact hrow'
                  · (try dsimp only); omega
              · clear hX27 hY27 X27 Y27
                refine SX.exit ?_
                try simp only [andThen_normal, andThen_ret, andThen_exit, inBlk_normal, inBlk_ret, inBlk_exit, Nat.reduceEqDiff, if_true, if_false, ↓reduceIte]
                refine hK21 _ _ ?_
                try clear hK21 K21
                refine SX.region_d [some 37, some 22] rfl (fun ops hops => ?_)
                unfold Dsts at hops
                simp (maxSteps:=1000000)(dsimp:=false)(disch:=omega) only [go_sem, Φa, hP, h7_26, h7_4, h7_8, h7_14, h7_15, h7_16, h7_20, h7_21, h7_22, hops]
                repeat' ((first | refine And.intro (by omega) ?_ | fail); try (with_reducible refine stI ?_); try simp (maxSteps:=1000000)(dsimp:=false)(disch:=omega) only [go_sem, Φa, hP, h7_26, h7_4, h7_8, h7_14, h7_15, h7_16, h7_20, h7_21, h7_22, hops])
                refine hK17 (j + 1, p3, vb3, sb3) _ (BD bb p3 vb3 :: sb3 :: some (b0, .cells (f.cells (.slice A f.rows.length c)).toArray 41 (0, 0)) :: []) _ (by first | exact Less.refl _ | exact Less.drop _ _ | exact Less.drops (Less.drop _ _) | exact Less.drops (Less.drops (Less.drop _ _)) | exact Less.drops (Less.drops (Less.drops (Less.drop _ _))) | exact Less.drops (Less.drops (Less.drops (Less.drops (Less.drop _ _))))) ?_ ?_
                · try dsimp only
                  refine ⟨?_, ?_, ?_, ?_, ?_, ?_, ?_, ?_, ?_⟩
                  · simp (maxSteps:=1000000)(dsimp:=false)(disch:=omega) only [go_sem, Φa, hP, h7_26, h7_4, h7_8, h7_14, h7_15, h7_16, h7_20, h7_21, h7_22]
                    first | done | rfl | skip
                  · simp (maxSteps:=1000000)(dsimp:=false)(disch:=omega) only [go_sem, Φa, hP, h7_26, h7_4, h7_8, h7_14, h7_15, h7_16, h7_20, h7_21, h7_22]
                  · simp (maxSteps:=1000000)(dsimp:=false)(disch:=omega) only [go_sem, Φa, hP, h7_26, h7_4, h7_8, h7_14, h7_15, h7_16, h7_20, h7_21, h7_22]
                  · simp (maxSteps:=1000000)(dsimp:=false)(disch:=omega) only [go_sem, Φa, hP, h7_26, h7_4, h7_8, h7_14, h7_15, h7_16, h7_20, h7_21, h7_22]
                  · simp (maxSteps:=1000000)(dsimp:=false)(disch:=omega) only [go_sem, Φa, hP, h7_26, h7_4, h7_8, h7_14, h7_15, h7_16, h7_20, h7_21, h7_22]
                  · simp (maxSteps:=1000000)(dsimp:=false)(disch:=omega) only [go_sem, Φa, hP, h7_26, h7_4, h7_8, h7_14, h7_15, h7_16, h7_20, h7_21, h7_22]
                  · simp (maxSteps:=1000000)(dsimp:=false)(disch:=omega) only [go_sem, Φa, hP, h7_26, h7_4, h7_8, h7_14, h7_15, h7_16, h7_20, h7_21, h7_22]
                  · rfl
                  · refine ⟨by omega, hp3, ?_⟩
                    obtain rfl : k = 8 := by omega
                    rw [rowL_take hjl, ← List.append_assoc]
                    exact hrow3
                · (try dsimp only); omega
          · clear hX20 hY20 X20 Y20
            refine SX.exit ?_
            try simp only [andThen_normal, andThen_ret, andThen_exit, inBlk_normal, inBlk_ret, inBlk_exit, Nat.reduceEqDiff, if_true, if_false, ↓reduceIte]
            refine hK15 _ _ ?_
            try clear hK15 K15
            refine SX.region_d [some 38] rfl (fun ops hops => ?_)
            unfold Dsts at hops
            simp (maxSteps:=1000000)(dsimp:=false)(disch:=omega) only [go_sem, Φa, hP, h5_22, h5_4, h5_14, h5_15, h5_16, h5_20, h5_21, hops]
            refine SCall.mono (WriteByte_spec hP hp2 hrow2 (by simp only [List.length_append, rowL_len, List.length_map, List.length_range, List.length_take]; omega)) ?_
            rintro v_ L_ ⟨rfl, vb', sb', rfl, hrow'⟩
            try with_reducible refine stI ?_
            try simp (maxSteps:=1000000)(dsimp:=false)(disch:=omega) only [go_sem, Φa, hP, h5_22, h5_4, h5_14, h5_15, h5_16, h5_20, h5_21, hops]
            refine hK13 _ _ ?_
            try clear hK13 K13
            refine SX.region_d [some 39, some 16] rfl (fun ops hops => ?_)
            unfold Dsts at hops
            simp (maxSteps:=1000000)(dsimp:=false)(disch:=omega) only [go_sem, Φa, hP, h5_22, h5_4, h5_14, h5_15, h5_16, h5_20, h5_21, hops]
            repeat' ((first | refine And.intro (by omega) ?_ | fail); try (with_reducible refine stI ?_); try simp (maxSteps:=1000000)(dsimp:=false)(disch:=omega) only [go_sem, Φa, hP, h5_22, h5_4, h5_14, h5_15, h5_16, h5_20, h5_21, hops])
            refine hK9 (i + 1, selfP bb, vb', sb') _ (BD bb (selfP bb) vb' :: sb' :: some (b0, .cells (f.cells (.slice A f.rows.length c)).toArray 41 (0, 0)) :: []) _ (by first | exact Less.refl _ | exact Less.drop _ _ | exact Less.drops (Less.drop _ _) | exact Less.drops (Less.drops (Less.drop _ _)) | exact Less.drops (Less.drops (Less.drops (Less.drop _ _))) | exact Less.drops (Less.drops (Less.drops (Less.drops (Less.drop _ _))))) ?_ ?_
            · try dsimp only
              refine ⟨?_, ?_, ?_, ?_, ?_, ?_⟩
              · simp (maxSteps:=1000000)(dsimp:=false)(disch:=omega) only [go_sem, Φa, hP, h5_22, h5_4, h5_14, h5_15, h5_16, h5_20, h5_21]
                first | done | rfl | skip
              · simp (maxSteps:=1000000)(dsimp:=false)(disch:=omega) only [go_sem, Φa, hP, h5_22, h5_4, h5_14, h5_15, h5_16, h5_20, h5_21]
              · simp (maxSteps:=1000000)(dsimp:=false)(disch:=omega) only [go_sem, Φa, hP, h5_22, h5_4, h5_14, h5_15, h5_16, h5_20, h5_21]
              · simp (maxSteps:=1000000)(dsimp:=false)(disch:=omega) only [go_sem, Φa, hP, h5_22, h5_4, h5_14, h5_15, h5_16, h5_20, h5_21]
              · rfl
              · refine ⟨by omega, .inr rfl, ?_⟩
                rw [rowsL_take hil]
                obtain rfl : j = (f.rows.getD i []).length := by omega
                rw [List.take_of_length_le (Nat.le_refl _)] at hrow'
                exact hrow'
            · (try dsimp only); omega
      · clear hX12 hY12 X12 Y12
        refine SX.exit ?_
        try simp only [andThen_normal, andThen_ret, andThen_exit, inBlk_normal, inBlk_ret, inBlk_exit, Nat.reduceEqDiff, if_true, if_false, ↓reduceIte]
        refine hK7 _ _ ?_
        try clear hK7 K7
        refine SX.seq_k fun K32 hK32 => ?_
        refine SX.region_d [some 40, some 2, some 3] rfl (fun ops hops => ?_)
        unfold Dsts at hops
        simp (maxSteps:=1000000)(dsimp:=false)(disch:=omega) only [go_sem, Φa, hP, h3_16, h3_4, h3_14, h3_15, hops]
        obtain rfl : i = f.rows.length := by omega
        rw [List.take_length] at hrow
        refine SCall.mono (String_spec hP ho hp hrow (rowsL_byte _)) ?_
        rintro v_ L_ ⟨hv_, hL_⟩
        rw [hv_, hL_]
        clear hv_ hL_ v_ L_
        try with_reducible refine stI ?_
        try simp (maxSteps:=1000000)(dsimp:=false)(disch:=omega) only [go_sem, Φa, hP, h3_16, h3_4, h3_14, h3_15, hops]
        refine hK32 _ _ ?_
        try clear hK32 K32
        refine SX.ret ?_
        simp only [andThen_normal, andThen_ret, andThen_exit, inBlk_normal, inBlk_ret, inBlk_exit, Nat.reduceEqDiff, if_true, if_false, ↓reduceIte, retQ_ret]
        try simp only [res0, res1, res2, res3, stK_e, go_sem, Φa, hP, h3_16, h3_4, h3_14, h3_15]
        refine ⟨_, _, Less.refl _, rfl, ?_, rfl⟩
        unfold showS
        rw [if_pos hmt]

end Go.Proofs.YtpakphgeichopaaDoor
set_option linter.unusedVariables false
set_option linter.unusedSimpArgs false
namespace Go.Proofs.YtpakphgeichopaaDoor
open Go.RowKit Go.SX Go.Proofs

def sgT (b : Int) (n : Nat) : List Int := (List.range 8).map fun p => if 7 < p + n then bitL b p else 0
theorem sgT_set {b : Int} {n : Nat} (h : n < 8) : (sgT b n).set (7 - n) (bitL b (7 - n)) = sgT b (n + 1) := by
  match n, h with
  | 0, _ | 1, _ | 2, _ | 3, _ | 4, _ | 5, _ | 6, _ | 7, _ => rfl
  | n + 8, h => omega
theorem sgT_len (b : Int) (n : Nat) : (sgT b n).length = 8 := by simp [sgT]
theorem half {b : Int} {n : Nat} (hb : 0 ≤ b ∧ b ≤ 255) : 0 ≤ b / 2 ^ n ∧ b / 2 ^ n ≤ 255 := by
  have h2 : (0 : Int) < 2 ^ n := Int.pow_pos (by decide)
  refine ⟨Int.ediv_nonneg hb.1 (Int.le_of_lt h2), Int.le_trans (Int.ediv_le_self _ hb.1) hb.2⟩
theorem half_succ {b : Int} {n : Nat} (hb : 0 ≤ b ∧ b ≤ 255) : IntKind.u8.wrap ((b / 2 ^ n).tdiv 2) = b / 2 ^ (n + 1) := by
  have h := half (n := n) hb
  rw [Int.tdiv_eq_ediv_of_nonneg h.1, wu8 (by omega), Int.ediv_ediv_of_nonneg (Int.le_of_lt (Int.pow_pos (by decide))), Int.pow_succ]
theorem half_odd {b : Int} {n : Nat} (hb : 0 ≤ b ∧ b ≤ 255) : (b / 2 ^ n).tmod 2 = (b / 2 ^ n) % 2 := Int.tmod_eq_emod_of_nonneg (half hb).1
set_option maxHeartbeats 1000000 in
set_option maxRecDepth 100000 in
theorem signs_spec {Γ : Ctx} (hP : Γ.P = Tryd.prog) {L : Hp} {b : Int} (hb : 0 ≤ b ∧ b ≤ 255) :
    SCall Γ 41 #[(.int .u8 b)] L (fun v L' => ∃ g, v = .slice (some ⟨g, 0, none⟩) 8 8 ∧ L' = some (g, .cells (ints .u8 (byteL b)).toArray 5 (0, 0)) :: L) := by
  refine SCall.enter (n := 22) (res1 2) (hP ▸ Tryd.func41) rfl rfl (by simp) (res1_ok rfl) ?_
  refine SX.seq_k fun K1 hK1 => ?_
  refine SX.region_d [some 2] rfl (fun ops hops => ?_)
  unfold Dsts at hops
  simp (maxSteps := 1000000) (dsimp := false) (disch := omega) only [go_sem, ia_someH, hP, hops]
  refine hK1 _ _ ?_
  try clear hK1 K1
  refine SX.seq_k fun K2 hK2 => ?_
  refine SX.region_d [some 5, some 3] rfl (fun ops hops => ?_)
  unfold Dsts at hops
  simp (maxSteps := 1000000) (dsimp := false) (disch := omega) only [go_sem, ia_someH, hP, hops]
  intro g
  try with_reducible refine stI ?_
  try simp (maxSteps := 1000000) (dsimp := false) (disch := omega) only [go_sem, ia_someH, hP, hops]
  rw [zerosV_ints]
  try with_reducible refine stI ?_
  try simp (maxSteps := 1000000) (dsimp := false) (disch := omega) only [go_sem, ia_someH, hP, hops]
  refine hK2 _ _ ?_
  try clear hK2 K2
  refine SX.seq_k fun K3 hK3 => ?_
  refine SX.seq_k fun K4 hK4 => ?_
  refine SX.region_d [some 4] rfl (fun ops hops => ?_)
  unfold Dsts at hops
  simp (maxSteps := 1000000) (dsimp := false) (disch := omega) only [go_sem, ia_someH, hP, hops]
  refine hK4 _ _ ?_
  try clear hK4 K4
  refine SX.block ?_
  refine SX.live [0, 3, 4] (fun T1 hT1 => ?_)
  simp only [forall_mem_cons', forall_mem_nil', go_sem, ia_someH, hP] at hT1
  obtain ⟨h1_0, h1_3, h1_4⟩ := hT1
  refine SX.loop_k (fun (ss : (Nat)) T L' => (fun (n : Nat) => T 0 = .int .u8 (b / 2 ^ n) ∧ T 4 = .int .i64 (7 - (n : Int)) ∧ T 3 = T1 3 ∧ L' = some (g, .cells (ints .u8 (sgT b n)).toArray 5 (0, 0)) :: L ∧ (n ≤ 8)) (ss)) (fun (ss : (Nat)) => (fun (n : Nat) => 8 - n) (ss)) 0 ?_ ?_
  · try dsimp only
    refine ⟨?_, ?_, ?_, ?_, ?_⟩
    · rw [Int.pow_zero, Int.ediv_one]; first | exact h1_0 | (simp only [go_sem]; done) | skip
    · first | exact h1_4 | (rw [h1_4]; rfl) | (rw [h1_4]; simp; done)
    · rfl
    · rfl
    · exact Nat.zero_le _
  · intro n T2 L2 hI K5 hK5
    try dsimp only at hI hK5
    simp only [h1_3] at hI hK5
    obtain ⟨h2_0, h2_4, h2_3, hL2, hn⟩ := hI
    replace hL2 := hL2.symm
    subst hL2
    clear h1_0 h1_3 h1_4 T1
    refine SX.seq_k fun K6 hK6 => ?_
    refine SX.seq_k fun K7 hK7 => ?_
    refine SX.region_d [some 6, some 7] rfl (fun ops hops => ?_)
    unfold Dsts at hops
    simp (maxSteps := 1000000) (dsimp := false) (disch := omega) only [go_sem, ia_someH, hP, h2_0, h2_4, h2_3, hops]
    repeat' ((first | refine And.intro (by omega) ?_ | fail); try (with_reducible refine stI ?_); try simp (maxSteps := 1000000) (dsimp := false) (disch := omega) only [go_sem, ia_someH, hP, h2_0, h2_4, h2_3, hops])
    refine hK7 _ _ ?_
    try clear hK7 K7
    refine SX.cond_k fun X8 Y8 hX8 hY8 => ?_
    simp (maxSteps := 1000000) (dsimp := false) (disch := omega) only [go_sem, ia_someH, hP, h2_0, h2_4, h2_3, condVC]
    refine ⟨fun hc7 => hX8 ?_, fun hc7 => hY8 ?_⟩
    · clear hX8 hY8 X8 Y8
      refine SX.skip ?_
      try simp only [andThen_normal, andThen_ret, andThen_exit, inBlk_normal, inBlk_ret, inBlk_exit, Nat.reduceEqDiff, if_true, if_false, ↓reduceIte]
      refine hK6 _ _ ?_
      try clear hK6 K6
      refine SX.seq_k fun K9 hK9 => ?_
      refine SX.block ?_
      refine SX.seq_k fun K10 hK10 => ?_
      have hn8 : n < 8 := by omega
      have hi7 : ((7 : Int) - (n : Int)).toNat = 7 - n := by omega
      have hsl := sgT_len b n
      have hst := sgT_set (b := b) hn8
      refine SX.region_d [some 10, some 11, some 12, none] rfl (fun ops hops => ?_)
      unfold Dsts at hops
      simp (maxSteps := 1000000) (dsimp := false) (disch := omega) only [go_sem, ia_someH, hP, h2_0, h2_4, h2_3, hops, hi7]
      refine ⟨0, _, _, _, rfl, (by simp [ints_length]; omega), .inr (Nat.zero_le _), ?_⟩
      try with_reducible refine stI ?_
      try simp (maxSteps := 1000000) (dsimp := false) (disch := omega) only [go_sem, ia_someH, hP, h2_0, h2_4, h2_3, hops, hi7]
      rw [ints_set]
      refine hK10 _ _ ?_
      try clear hK10 K10
      refine SX.seq_k fun K11 hK11 => ?_
      refine SX.seq_k fun K12 hK12 => ?_
      refine SX.region_d [some 13, some 14, some 15] rfl (fun ops hops => ?_)
      unfold Dsts at hops
      simp (maxSteps := 1000000) (dsimp := false) (disch := omega) only [go_sem, ia_someH, hP, h2_0, h2_4, h2_3, hops, half_odd hb]
      repeat' ((first | refine And.intro (by omega) ?_ | fail); try (with_reducible refine stI ?_); try simp (maxSteps := 1000000) (dsimp := false) (disch := omega) only [go_sem, ia_someH, hP, h2_0, h2_4, h2_3, hops, half_odd hb])
      refine hK12 _ _ ?_
      try clear hK12 K12
      refine SX.cond_k fun X13 Y13 hX13 hY13 => ?_
      simp (maxSteps := 1000000) (dsimp := false) (disch := omega) only [go_sem, ia_someH, hP, h2_0, h2_4, h2_3, condVC]
      refine ⟨fun hc15 => hX13 ?_, fun hc15 => hY13 ?_⟩
      · clear hX13 hY13 X13 Y13
        have hset35 : (sgT b n).set (7 - n) 35 = sgT b (n + 1) := by rw [← hst, show bitL b (7 - n) = 35 from if_pos (by rw [show 7 - (7 - n) = n by omega]; simpa using hc15)]
        refine SX.region_d [some 16, some 17, some 18, none] rfl (fun ops hops => ?_)
        unfold Dsts at hops
        simp (maxSteps := 1000000) (dsimp := false) (disch := omega) only [go_sem, ia_someH, hP, h2_0, h2_4, h2_3, hops, hi7]
        refine ⟨0, _, _, _, rfl, (by simp [ints_length]; omega), .inr (Nat.zero_le _), ?_⟩
        try with_reducible refine stI ?_
        try simp (maxSteps := 1000000) (dsimp := false) (disch := omega) only [go_sem, ia_someH, hP, h2_0, h2_4, h2_3, hops, hi7]
        rw [ints_set]
        refine hK11 _ _ ?_
        try clear hK11 K11
        refine SX.live [0, 3, 4] (fun T3 hT3 => ?_)
        simp only [forall_mem_cons', forall_mem_nil', go_sem, ia_someH, hP, h2_0, h2_4, h2_3] at hT3
        obtain ⟨h3_0, h3_3, h3_4⟩ := hT3
        clear h2_0 h2_4 h2_3 T2
        refine SX.region_d [some 19, some 20, some 0] rfl (fun ops hops => ?_)
        unfold Dsts at hops
        simp (maxSteps := 1000000) (dsimp := false) (disch := omega) only [go_sem, ia_someH, hP, h3_0, h3_3, h3_4, hops]
        repeat' ((first | refine And.intro (by omega) ?_ | fail); try (with_reducible refine stI ?_); try simp (maxSteps := 1000000) (dsimp := false) (disch := omega) only [go_sem, ia_someH, hP, h3_0, h3_3, h3_4, hops])
        refine hK9 _ _ ?_
        try clear hK9 K9
        refine SX.region_d [some 8, some 9, some 4] rfl (fun ops hops => ?_)
        unfold Dsts at hops
        simp (maxSteps := 1000000) (dsimp := false) (disch := omega) only [go_sem, ia_someH, hP, h3_0, h3_3, h3_4, hops]
        repeat' ((first | refine And.intro (by omega) ?_ | fail); try (with_reducible refine stI ?_); try simp (maxSteps := 1000000) (dsimp := false) (disch := omega) only [go_sem, ia_someH, hP, h3_0, h3_3, h3_4, hops])
        refine hK5 (n + 1) _ (some (g, .cells (ints .u8 (sgT b (n + 1))).toArray 5 (0, 0)) :: L) _ (by (first | (rw [List.set_set, hset35]; exact Less.refl _) | (rw [← hset35]; exact Less.refl _))) ?_ ?_
        · try dsimp only
          refine ⟨?_, ?_, ?_, ?_, ?_⟩
          · simp (maxSteps := 1000000) (dsimp := false) (disch := omega) only [go_sem, ia_someH, hP, h3_0, h3_3, h3_4]
            rw [half_succ hb]
          · simp (maxSteps := 1000000) (dsimp := false) (disch := omega) only [go_sem, ia_someH, hP, h3_0, h3_3, h3_4]
            refine congrArg (Value.int .i64) ?_; omega
          · simp (maxSteps := 1000000) (dsimp := false) (disch := omega) only [go_sem, ia_someH, hP, h3_0, h3_3, h3_4]
          · rfl
          · omega
        · (try dsimp only); omega
      · clear hX13 hY13 X13 Y13
        have hset46 : (sgT b n).set (7 - n) 46 = sgT b (n + 1) := by rw [← hst, show bitL b (7 - n) = 46 from if_neg (by rw [show 7 - (7 - n) = n by omega]; simpa using hc15)]
        refine SX.skip ?_
        try simp only [andThen_normal, andThen_ret, andThen_exit, inBlk_normal, inBlk_ret, inBlk_exit, Nat.reduceEqDiff, if_true, if_false, ↓reduceIte]
        refine hK11 _ _ ?_
        try clear hK11 K11
        refine SX.region_d [some 19, some 20, some 0] rfl (fun ops hops => ?_)
        unfold Dsts at hops
        simp (maxSteps := 1000000) (dsimp := false) (disch := omega) only [go_sem, ia_someH, hP, h2_0, h2_4, h2_3, hops]
        repeat' ((first | refine And.intro (by omega) ?_ | fail); try (with_reducible refine stI ?_); try simp (maxSteps := 1000000) (dsimp := false) (disch := omega) only [go_sem, ia_someH, hP, h2_0, h2_4, h2_3, hops])
        refine hK9 _ _ ?_
        try clear hK9 K9
        refine SX.live [0, 3, 4] (fun T4 hT4 => ?_)
        simp only [forall_mem_cons', forall_mem_nil', go_sem, ia_someH, hP, h2_0, h2_4, h2_3] at hT4
        obtain ⟨h4_0, h4_3, h4_4⟩ := hT4
        clear h2_0 h2_4 h2_3 T2
        refine SX.region_d [some 8, some 9, some 4] rfl (fun ops hops => ?_)
        unfold Dsts at hops
        simp (maxSteps := 1000000) (dsimp := false) (disch := omega) only [go_sem, ia_someH, hP, h4_0, h4_3, h4_4, hops]
        repeat' ((first | refine And.intro (by omega) ?_ | fail); try (with_reducible refine stI ?_); try simp (maxSteps := 1000000) (dsimp := false) (disch := omega) only [go_sem, ia_someH, hP, h4_0, h4_3, h4_4, hops])
        refine hK5 (n + 1) _ (some (g, .cells (ints .u8 (sgT b (n + 1))).toArray 5 (0, 0)) :: L) _ (by (first | (rw [hset46]; exact Less.refl _))) ?_ ?_
        · try dsimp only
          refine ⟨?_, ?_, ?_, ?_, ?_⟩
          · simp (maxSteps := 1000000) (dsimp := false) (disch := omega) only [go_sem, ia_someH, hP, h4_0, h4_3, h4_4]
            rw [half_succ hb]
          · simp (maxSteps := 1000000) (dsimp := false) (disch := omega) only [go_sem, ia_someH, hP, h4_0, h4_3, h4_4]
            refine congrArg (Value.int .i64) ?_; omega
          · simp (maxSteps := 1000000) (dsimp := false) (disch := omega) only [go_sem, ia_someH, hP, h4_0, h4_3, h4_4]
          · rfl
          · omega
        · (try dsimp only); omega
    · clear hX8 hY8 X8 Y8
      refine SX.exit ?_
      try simp only [andThen_normal, andThen_ret, andThen_exit, inBlk_normal, inBlk_ret, inBlk_exit, Nat.reduceEqDiff, if_true, if_false, ↓reduceIte]
      refine hK3 _ _ ?_
      try clear hK3 K3
      refine SX.seq_k fun K14 hK14 => ?_
      refine SX.region_d [some 21, some 2] rfl (fun ops hops => ?_)
      unfold Dsts at hops
      simp (maxSteps := 1000000) (dsimp := false) (disch := omega) only [go_sem, ia_someH, hP, h2_0, h2_4, h2_3, hops]
      refine hK14 _ _ ?_
      try clear hK14 K14
      refine SX.ret ?_
      simp only [andThen_normal, andThen_ret, andThen_exit, inBlk_normal, inBlk_ret, inBlk_exit, Nat.reduceEqDiff, if_true, if_false, ↓reduceIte, retQ_ret]
      try simp only [res0, res1, res2, res3, stK_e, go_sem, ia_someH, hP, h2_0, h2_4, h2_3]
      obtain rfl : n = 8 := by omega
      exact ⟨_, _, Less.refl _, rfl, g, rfl, rfl⟩

end Go.Proofs.YtpakphgeichopaaDoor
set_option linter.unusedVariables false
set_option linter.unusedSimpArgs false
namespace Go.Proofs.YtpakphgeichopaaDoor
open Go.RowKit Go.SX Go.Proofs
set_option maxHeartbeats 1000000 in
set_option maxRecDepth 100000 in
theorem refShow_spec {Γ : Ctx} (hP : Γ.P = Tryd.prog) {L : Hp} {v : Value} {f : Fm} (hr : SlR (Cell Γ L) v f.rows) (hm : cnt f.rows ≤ 9000000000000000000) (hrl : f.rows.length ≤ 9000000000000000000) (hby : ∀ i, i < f.rows.length → ∀ j, j < (f.rows.getD i []).length → 0 ≤ (f.rows.getD i []).getD j 0 ∧ (f.rows.getD i []).getD j 0 ≤ 255) :
    SCall Γ 19 #[(.agg (f.cells v).toArray)] L (fun v L' => v = .tuple #[.string (showS f).1, .int .i64 (showS f).2] ∧ L' = L) := by
  obtain ⟨A, c, rfl, hc⟩ := Sl.shape hr
  obtain ⟨a1, e1, _, hA⟩ := slR_at hr
  refine SCall.enter (n := 42) (res2 2 3) (hP ▸ Tryd.func19) rfl rfl (by simp) (res2_ok rfl) ?_
  refine SX.seq_k fun K1 hK1 => ?_
  refine SX.region_d [some 1, some 2, some 3] rfl (fun ops hops => ?_)
  unfold Dsts at hops
  simp (maxSteps:=1000000)(dsimp:=false)(disch:=omega) only [go_sem, ia_someH, hP, hops]
  intro b0
  try with_reducible refine stI ?_
  try simp (maxSteps:=1000000)(dsimp:=false)(disch:=omega) only [go_sem, ia_someH, hP, hops]
  refine hK1 _ _ ?_
  try clear hK1 K1
  refine SX.seq_k fun K2 hK2 => ?_
  refine SX.region_d [some 8, some 9, some 4] rfl (fun ops hops => ?_)
  unfold Dsts at hops
  simp (maxSteps:=1000000)(dsimp:=false)(disch:=omega) only [go_sem, ia_someH, hP, hops]
  refine ⟨_, Cell.at 0 rfl (show (Fm.cells _ _)[0]? = _ from rfl), _, Cell.at 0 rfl (show (Fm.cells _ _)[1]? = _ from rfl), _, Cell.at 0 rfl (show (Fm.cells _ _)[2]? = _ from rfl), ?_⟩
  try with_reducible refine stI ?_
  try simp (maxSteps:=1000000)(dsimp:=false)(disch:=omega) only [go_sem, ia_someH, hP, hops]
  refine SCall.mono (May_spec (f := f) hP (SlR.mono (fun a v h => Cell.cons _ h) hr) hm hrl) ?_
  rintro v_ L_ ⟨hv_, hL_⟩
  rw [hv_, hL_]
  clear hv_ hL_ v_ L_
  try with_reducible refine stI ?_
  try simp (maxSteps:=1000000)(dsimp:=false)(disch:=omega) only [go_sem, ia_someH, hP, hops]
  refine hK2 _ _ ?_
  try clear hK2 K2
  refine SX.seq_k fun K3 hK3 => ?_
  refine SX.seq_k fun K4 hK4 => ?_
  refine SX.region_d [some 10, some 11] rfl (fun ops hops => ?_)
  unfold Dsts at hops
  simp (maxSteps:=1000000)(dsimp:=false)(disch:=omega) only [go_sem, ia_someH, hP, hops]
  refine hK4 _ _ ?_
  try clear hK4 K4
  refine SX.cond_k fun X5 Y5 hX5 hY5 => ?_
  simp (maxSteps:=1000000)(dsimp:=false)(disch:=omega) only [go_sem, ia_someH, hP, condVC]
  refine ⟨fun hc11 => hX5 ?_, fun hc11 => hY5 ?_⟩
  · clear hX5 hY5 X5 Y5
    refine SX.seq_k fun K6 hK6 => ?_
    refine SX.region_d [some 2, some 3] rfl (fun ops hops => ?_)
    unfold Dsts at hops
    simp (maxSteps:=1000000)(dsimp:=false)(disch:=omega) only [go_sem, ia_someH, hP, hops]
    refine hK6 _ _ ?_
    try clear hK6 K6
    refine SX.ret ?_
    simp only [andThen_normal, andThen_ret, andThen_exit, inBlk_normal, inBlk_ret, inBlk_exit, Nat.reduceEqDiff, if_true, if_false, ↓reduceIte, retQ_ret]
    try simp only [res0, res1, res2, res3, stK_e, go_sem, ia_someH, hP]
    refine ⟨_, _, Less.drop _ _, rfl, ?_, rfl⟩
    have h0 : mayF f = false := by simpa using hc11
    unfold showS
    rw [if_neg (by rw [h0]; exact Bool.false_ne_true)]
    rfl
  · clear hX5 hY5 X5 Y5
    refine SX.skip ?_
    try simp only [andThen_normal, andThen_ret, andThen_exit, inBlk_normal, inBlk_ret, inBlk_exit, Nat.reduceEqDiff, if_true, if_false, ↓reduceIte]
    refine hK3 _ _ ?_
    try clear hK3 K3
    refine SX.seq_k fun K7 hK7 => ?_
    have hmt : mayF f = true := by simpa using hc11
    have hmf := of_mayF hmt
    have h128 := hmf.2.1
    refine SX.region_d [some 5] rfl (fun ops hops => ?_)
    unfold Dsts at hops
    simp (maxSteps:=1000000)(dsimp:=false)(disch:=omega) only [go_sem, ia_someH, hP, hops]
    refine hK7 _ _ ?_
    try clear hK7 K7
    refine SX.live [1, 5] (fun T1 hT1 => ?_)
    simp only [forall_mem_cons', forall_mem_nil', go_sem, ia_someH, hP] at hT1
    obtain ⟨h1_1, h1_5⟩ := hT1
    refine SX.seq_k fun K8 hK8 => ?_
    refine SX.seq_k fun K9 hK9 => ?_
    refine SX.less (Less.none _) ?_
    refine SX.region_d [some 6] rfl (fun ops hops => ?_)
    unfold Dsts at hops
    simp (maxSteps:=1000000)(dsimp:=false)(disch:=omega) only [go_sem, ia_someH, hP, h1_1, h1_5, hops]
    refine hK9 _ _ ?_
    try clear hK9 K9
    refine SX.block ?_
    refine SX.live [1, 5, 6] (fun T2 hT2 => ?_)
    simp only [forall_mem_cons', forall_mem_nil', go_sem, ia_someH, hP, h1_1, h1_5] at hT2
    obtain ⟨h2_1, h2_5, h2_6⟩ := hT2
    clear h1_1 h1_5 T1
    refine SX.loop_k (fun (ss : (Nat) × (Value) × (Slot)) T L' => (fun (i : Nat) (vb : Value) (sb : Slot) => T 5 = vb ∧ T 6 = .int .i64 (i : Int) ∧ T 1 = T2 1 ∧ L' = sb :: some (b0, .cells (f.cells (.slice A f.rows.length c)).toArray 41 (0, 0)) :: L ∧ (i ≤ 128 ∧ RowI .u8 5 vb (rowsL (f.rows.take i)) sb)) (ss.1) (ss.2.1) (ss.2.2)) (fun (ss : (Nat) × (Value) × (Slot)) => (fun (i : Nat) (vb : Value) (sb : Slot) => 128 - i) (ss.1) (ss.2.1) (ss.2.2)) (0, .slice none 0 0, none) ?_ ?_
    · try dsimp only
      refine ⟨?_, ?_, ?_, ?_, ?_⟩
      · first | exact h2_5 | (rw [h2_5]; rfl) | (rw [h2_5]; simp; done)
      · first | exact h2_6 | (rw [h2_6]; rfl) | (rw [h2_6]; simp; done)
      · rfl
      · rfl
      · exact ⟨Nat.zero_le _, RowI.nil _ _⟩
    · intro ss T3 L3 hI K10 hK10
      obtain ⟨i, vb, sb⟩ := ss
      try dsimp only at hI hK10
      simp only [h2_1] at hI hK10
      obtain ⟨h3_5, h3_6, h3_1, hL3, ⟨hi, hrow⟩⟩ := hI
      replace hL3 := hL3.symm
      subst hL3
      clear h2_1 h2_5 h2_6 T2
      refine SX.seq_k fun K11 hK11 => ?_
      refine SX.seq_k fun K12 hK12 => ?_
      refine SX.region_d [some 12, some 13] rfl (fun ops hops => ?_)
      unfold Dsts at hops
      simp (maxSteps:=1000000)(dsimp:=false)(disch:=omega) only [go_sem, ia_someH, hP, h3_5, h3_6, h3_1, hops]
      repeat' ((first | refine And.intro (by omega) ?_ | fail); try (with_reducible refine stI ?_); try simp (maxSteps:=1000000)(dsimp:=false)(disch:=omega) only [go_sem, ia_someH, hP, h3_5, h3_6, h3_1, hops])
      refine hK12 _ _ ?_
      try clear hK12 K12
      refine SX.cond_k fun X13 Y13 hX13 hY13 => ?_
      simp (maxSteps:=1000000)(dsimp:=false)(disch:=omega) only [go_sem, ia_someH, hP, h3_5, h3_6, h3_1, condVC]
      refine ⟨fun hc13 => hX13 ?_, fun hc13 => hY13 ?_⟩
      · clear hX13 hY13 X13 Y13
        refine SX.skip ?_
        try simp only [andThen_normal, andThen_ret, andThen_exit, inBlk_normal, inBlk_ret, inBlk_exit, Nat.reduceEqDiff, if_true, if_false, ↓reduceIte]
        refine hK11 _ _ ?_
        try clear hK11 K11
        refine SX.seq_k fun K14 hK14 => ?_
        refine SX.block ?_
        refine SX.seq_k fun K15 hK15 => ?_
        refine SX.seq_k fun K16 hK16 => ?_
        have hil : i < f.rows.length := by omega
        obtain ⟨Ai, ci, hci, hcil, hsi⟩ := hA i hil
        obtain ⟨a2, e2, _, hB⟩ := sl_at hsi
        have hr8 := hmf.2.2.2 i hil
        have hlr := rowsL_len hmf.2.2.2 i (by omega)
        refine SX.region_d [some 7] rfl (fun ops hops => ?_)
        unfold Dsts at hops
        simp (maxSteps:=1000000)(dsimp:=false)(disch:=omega) only [go_sem, ia_someH, hP, h3_5, h3_6, h3_1, hops]
        refine hK16 _ _ ?_
        try clear hK16 K16
        refine SX.block ?_
        refine SX.live [1, 5, 6, 7] (fun T4 hT4 => ?_)
        simp only [forall_mem_cons', forall_mem_nil', go_sem, ia_someH, hP, h3_5, h3_6, h3_1] at hT4
        obtain ⟨h4_1, h4_5, h4_6, h4_7⟩ := hT4
        clear h3_5 h3_6 h3_1 T3
        refine SX.loop_k (fun (ss : (Nat) × (Value) × (Slot)) T L' => (fun (j : Nat) (vb2 : Value) (sb2 : Slot) => T 5 = vb2 ∧ T 7 = .int .i64 (j : Int) ∧ T 1 = T4 1 ∧ T 6 = T4 6 ∧ L' = sb2 :: some (b0, .cells (f.cells (.slice A f.rows.length c)).toArray 41 (0, 0)) :: L ∧ (j ≤ (f.rows.getD i []).length ∧ RowI .u8 5 vb2 (rowsL (f.rows.take i) ++ rowL ((f.rows.getD i []).take j)) sb2)) (ss.1) (ss.2.1) (ss.2.2)) (fun (ss : (Nat) × (Value) × (Slot)) => (fun (j : Nat) (vb2 : Value) (sb2 : Slot) => (f.rows.getD i []).length - j) (ss.1) (ss.2.1) (ss.2.2)) (0, vb, sb) ?_ ?_
        · try dsimp only
          refine ⟨?_, ?_, ?_, ?_, ?_, ?_⟩
          · first | exact h4_5 | (rw [h4_5]; rfl) | (rw [h4_5]; simp; done)
          · first | exact h4_7 | (rw [h4_7]; rfl) | (rw [h4_7]; simp; done)
          · rfl
          · rfl
          · rfl
          · refine ⟨Nat.zero_le _, ?_⟩
            rw [List.take_zero]
            show RowI .u8 5 vb (_ ++ []) sb
            rw [List.append_nil]
            exact hrow
        · intro ss T5 L5 hI K17 hK17
          obtain ⟨j, vb2, sb2⟩ := ss
          try dsimp only at hI hK17
          simp only [h4_1, h4_6] at hI hK17
          obtain ⟨h5_5, h5_7, h5_1, h5_6, hL5, ⟨hj, hrow2⟩⟩ := hI
          replace hL5 := hL5.symm
          subst hL5
          clear h4_1 h4_5 h4_6 h4_7 T4
          refine SX.seq_k fun K18 hK18 => ?_
          refine SX.seq_k fun K19 hK19 => ?_
          refine SX.region_d [some 16, some 17, some 18, some 19, some 20, some 21, some 22, some 23] rfl (fun ops hops => ?_)
          unfold Dsts at hops
          simp (maxSteps:=1000000)(dsimp:=false)(disch:=omega) only [go_sem, ia_someH, hP, h5_5, h5_7, h5_1, h5_6, hops, ia_at e1]
          refine ⟨_, Cell.at 1 rfl (show (Fm.cells _ _)[1]? = _ from rfl), ?_⟩
          try with_reducible refine stI ?_
          try simp (maxSteps:=1000000)(dsimp:=false)(disch:=omega) only [go_sem, ia_someH, hP, h5_5, h5_7, h5_1, h5_6, hops, ia_at e1]
          refine ⟨_, Cell.cons _ (Cell.cons _ hci), ?_⟩
          try with_reducible refine stI ?_
          try simp (maxSteps:=1000000)(dsimp:=false)(disch:=omega) only [go_sem, ia_someH, hP, h5_5, h5_7, h5_1, h5_6, hops, ia_at e1]
          refine hK19 _ _ ?_
          try clear hK19 K19
          refine SX.cond_k fun X20 Y20 hX20 hY20 => ?_
          simp (maxSteps:=1000000)(dsimp:=false)(disch:=omega) only [go_sem, ia_someH, hP, h5_5, h5_7, h5_1, h5_6, condVC]
          refine ⟨fun hc23 => hX20 ?_, fun hc23 => hY20 ?_⟩
          · clear hX20 hY20 X20 Y20
            refine SX.skip ?_
            try simp only [andThen_normal, andThen_ret, andThen_exit, inBlk_normal, inBlk_ret, inBlk_exit, Nat.reduceEqDiff, if_true, if_false, ↓reduceIte]
            refine hK18 _ _ ?_
            try clear hK18 K18
            refine SX.seq_k fun K21 hK21 => ?_
            refine SX.block ?_
            have hjl : j < (f.rows.getD i []).length := by omega
            have hbj := hB j hjl
            have hbb := hby i hil j hjl
            refine SX.region_d [some 26, some 27, some 28, some 29, some 30, some 31, some 32, some 33, some 34, some 35, some 36, some 5] rfl (fun ops hops => ?_)
            unfold Dsts at hops
            simp (maxSteps:=1000000)(dsimp:=false)(disch:=omega) only [go_sem, ia_someH, hP, h5_5, h5_7, h5_1, h5_6, hops, ia_at e1, ia_at e2]
            refine ⟨_, Cell.at 1 rfl (show (Fm.cells _ _)[1]? = _ from rfl), ?_⟩
            try with_reducible refine stI ?_
            try simp (maxSteps:=1000000)(dsimp:=false)(disch:=omega) only [go_sem, ia_someH, hP, h5_5, h5_7, h5_1, h5_6, hops, ia_at e1, ia_at e2]
            refine ⟨_, Cell.cons _ (Cell.cons _ hci), ?_⟩
            try with_reducible refine stI ?_
            try simp (maxSteps:=1000000)(dsimp:=false)(disch:=omega) only [go_sem, ia_someH, hP, h5_5, h5_7, h5_1, h5_6, hops, ia_at e1, ia_at e2]
            refine ⟨_, Cell.cons _ (Cell.cons _ hbj), ?_⟩
            try with_reducible refine stI ?_
            try simp (maxSteps:=1000000)(dsimp:=false)(disch:=omega) only [go_sem, ia_someH, hP, h5_5, h5_7, h5_1, h5_6, hops, ia_at e1, ia_at e2]
            refine SCall.mono (signs_spec hP hbb) ?_
            rintro v_ L_ ⟨g, rfl, rfl⟩
            try with_reducible refine stI ?_
            try simp (maxSteps:=1000000)(dsimp:=false)(disch:=omega) only [go_sem, ia_someH, hP, h5_5, h5_7, h5_1, h5_6, hops, ia_at e1, ia_at e2]
            refine YAppend.ints (i := 1) (m := byteL ((f.rows.getD i []).getD j 0)) (hP ▸ T.elS_50) (hP ▸ T.zr_5) rfl rfl hrow2 (SlI.own 0 rfl (by rw [byteL_len]) (Nat.le_refl _)) (by rw [byteL_len]; simp only [List.length_append, rowL_len, List.length_map, List.length_range, List.length_take]; omega) (by decide) ?_
            intro v' s' hrow'
            try with_reducible refine stI ?_
            try simp (maxSteps:=1000000)(dsimp:=false)(disch:=omega) only [go_sem, ia_someH, hP, h5_5, h5_7, h5_1, h5_6, hops, ia_at e1, ia_at e2]
            refine hK21 _ _ ?_
            try clear hK21 K21
            refine SX.live [1, 5, 6, 7] (fun T6 hT6 => ?_)
            simp only [forall_mem_cons', forall_mem_nil', go_sem, ia_someH, hP, h5_5, h5_7, h5_1, h5_6] at hT6
            obtain ⟨h6_1, h6_5, h6_6, h6_7⟩ := hT6
            clear h5_5 h5_7 h5_1 h5_6 T5
            refine SX.region_d [some 24, some 25, some 7] rfl (fun ops hops => ?_)
            unfold Dsts at hops
            simp (maxSteps:=1000000)(dsimp:=false)(disch:=omega) only [go_sem, ia_someH, hP, h6_1, h6_5, h6_6, h6_7, hops]
            repeat' ((first | refine And.intro (by omega) ?_ | fail); try (with_reducible refine stI ?_); try simp (maxSteps:=1000000)(dsimp:=false)(disch:=omega) only [go_sem, ia_someH, hP, h6_1, h6_5, h6_6, h6_7, hops])
            refine hK17 (j + 1, v', s') _ (s' :: some (b0, .cells (f.cells (.slice A f.rows.length c)).toArray 41 (0, 0)) :: L) _ (by exact Less.drop _ _) ?_ ?_
            · try dsimp only
              refine ⟨?_, ?_, ?_, ?_, ?_, ?_⟩
              · simp (maxSteps:=1000000)(dsimp:=false)(disch:=omega) only [go_sem, ia_someH, hP, h6_1, h6_5, h6_6, h6_7]
                first | done | rfl | skip
              · simp (maxSteps:=1000000)(dsimp:=false)(disch:=omega) only [go_sem, ia_someH, hP, h6_1, h6_5, h6_6, h6_7]
                first | done | rfl | skip
              · simp (maxSteps:=1000000)(dsimp:=false)(disch:=omega) only [go_sem, ia_someH, hP, h6_1, h6_5, h6_6, h6_7]
              · simp (maxSteps:=1000000)(dsimp:=false)(disch:=omega) only [go_sem, ia_someH, hP, h6_1, h6_5, h6_6, h6_7]
              · rfl
              · refine ⟨by omega, ?_⟩
                rw [rowL_take hjl, ← List.append_assoc]
                exact hrow'
            · (try dsimp only); omega
          · clear hX20 hY20 X20 Y20
            refine SX.exit ?_
            try simp only [andThen_normal, andThen_ret, andThen_exit, inBlk_normal, inBlk_ret, inBlk_exit, Nat.reduceEqDiff, if_true, if_false, ↓reduceIte]
            refine hK15 _ _ ?_
            try clear hK15 K15
            refine SX.region_d [some 37, some 38, some 39, some 5] rfl (fun ops hops => ?_)
            unfold Dsts at hops
            simp (maxSteps:=1000000)(dsimp:=false)(disch:=omega) only [go_sem, ia_someH, hP, h5_5, h5_7, h5_1, h5_6, hops]
            intro g12
            try with_reducible refine stI ?_
            try simp (maxSteps:=1000000)(dsimp:=false)(disch:=omega) only [go_sem, ia_someH, hP, h5_5, h5_7, h5_1, h5_6, hops]
            refine YAppend.int1 (i := 0) (hP ▸ T.elS_50) (hP ▸ T.zr_5) rfl rfl hrow2 (by simp only [List.length_append, rowL_len, List.length_map, List.length_range, List.length_take]; omega) (by decide) ?_
            intro v' s' hrow'
            try with_reducible refine stI ?_
            try simp (maxSteps:=1000000)(dsimp:=false)(disch:=omega) only [go_sem, ia_someH, hP, h5_5, h5_7, h5_1, h5_6, hops]
            refine hK14 _ _ ?_
            try clear hK14 K14
            refine SX.live [1, 5, 6] (fun T7 hT7 => ?_)
            simp only [forall_mem_cons', forall_mem_nil', go_sem, ia_someH, hP, h5_5, h5_7, h5_1, h5_6] at hT7
            obtain ⟨h7_1, h7_5, h7_6⟩ := hT7
            clear h5_5 h5_7 h5_1 h5_6 T5
            refine SX.region_d [some 14, some 15, some 6] rfl (fun ops hops => ?_)
            unfold Dsts at hops
            simp (maxSteps:=1000000)(dsimp:=false)(disch:=omega) only [go_sem, ia_someH, hP, h7_1, h7_5, h7_6, hops]
            repeat' ((first | refine And.intro (by omega) ?_ | fail); try (with_reducible refine stI ?_); try simp (maxSteps:=1000000)(dsimp:=false)(disch:=omega) only [go_sem, ia_someH, hP, h7_1, h7_5, h7_6, hops])
            refine hK10 (i + 1, v', s') _ (s' :: some (b0, .cells (f.cells (.slice A f.rows.length c)).toArray 41 (0, 0)) :: L) _ (by exact Less.drop _ _) ?_ ?_
            · try dsimp only
              refine ⟨?_, ?_, ?_, ?_, ?_⟩
              · simp (maxSteps:=1000000)(dsimp:=false)(disch:=omega) only [go_sem, ia_someH, hP, h7_1, h7_5, h7_6]
                first | done | rfl | skip
              · simp (maxSteps:=1000000)(dsimp:=false)(disch:=omega) only [go_sem, ia_someH, hP, h7_1, h7_5, h7_6]
                first | done | rfl | skip
              · simp (maxSteps:=1000000)(dsimp:=false)(disch:=omega) only [go_sem, ia_someH, hP, h7_1, h7_5, h7_6]
              · rfl
              · refine ⟨by omega, ?_⟩
                rw [rowsL_take (by omega)]
                obtain rfl : j = (f.rows.getD i []).length := by omega
                rw [List.take_of_length_le (Nat.le_refl _)] at hrow'
                exact hrow'
            · (try dsimp only); omega
      · clear hX13 hY13 X13 Y13
        refine SX.exit ?_
        try simp only [andThen_normal, andThen_ret, andThen_exit, inBlk_normal, inBlk_ret, inBlk_exit, Nat.reduceEqDiff, if_true, if_false, ↓reduceIte]
        refine hK8 _ _ ?_
        try clear hK8 K8
        refine SX.seq_k fun K22 hK22 => ?_
        refine SX.region_d [some 40, some 41, some 2, some 3] rfl (fun ops hops => ?_)
        unfold Dsts at hops
        simp (maxSteps:=1000000)(dsimp:=false)(disch:=omega) only [go_sem, ia_someH, hP, h3_5, h3_6, h3_1, hops]
        obtain rfl : i = 128 := by omega
        rw [List.take_of_length_le (by omega)] at hrow
        obtain ⟨A', c', rfl, hcc', _⟩ := Row.form hrow
        try with_reducible refine stI ?_
        try simp (maxSteps:=1000000)(dsimp:=false)(disch:=omega) only [go_sem, ia_someH, hP, h3_5, h3_6, h3_1, hops]
        first | refine cv_row (hP ▸ Tryd.underlying50) (hP ▸ Tryd.underlying9) (hP ▸ Tryd.underlying5) (RowI.sl (i := 0) hrow (by rfl)) (rowsL_byte _) ?_ | refine conv_row (hP ▸ Tryd.underlying50) (hP ▸ Tryd.underlying9) (hP ▸ Tryd.underlying5) (RowI.sl (i := 0) hrow (by rfl)) (rowsL_byte _) ?_
        try with_reducible refine stI ?_
        try simp (maxSteps:=1000000)(dsimp:=false)(disch:=omega) only [go_sem, ia_someH, hP, h3_5, h3_6, h3_1, hops]
        refine hK22 _ _ ?_
        try clear hK22 K22
        refine SX.ret ?_
        simp only [andThen_normal, andThen_ret, andThen_exit, inBlk_normal, inBlk_ret, inBlk_exit, Nat.reduceEqDiff, if_true, if_false, ↓reduceIte, retQ_ret]
        try simp only [res0, res1, res2, res3, stK_e, go_sem, ia_someH, hP, h3_5, h3_6, h3_1]
        refine ⟨_, _, Less.drops (Less.drop _ _), rfl, ?_, rfl⟩
        unfold showS
        rw [if_pos hmt]

theorem Show_spec {Γ : Ctx} (hP : Γ.P = Tryd.prog) {L : Hp} {v : Value} {f : Fm} (hr : SlR (Cell Γ L) v f.rows) (hm : cnt f.rows ≤ 9000000000000000000) (hrl : f.rows.length ≤ 9000000000000000000) (hby : ∀ i, i < f.rows.length → ∀ j, j < (f.rows.getD i []).length → 0 ≤ (f.rows.getD i []).getD j 0 ∧ (f.rows.getD i []).getD j 0 ≤ 255) :
    SCall Γ 18 #[(.agg (f.cells v).toArray)] L (fun v L' => v = .tuple #[.string (showS f).1, .int .i64 (showS f).2] ∧ L' = L) :=
  SCall.lift fun w hi => ShowB_spec (Γ := ⟨Γ.P, w, []⟩) (L := []) hP rfl (SlR.mono (fun a v h => Cell.lift hi h) hr) hm hrl hby

end Go.Proofs.YtpakphgeichopaaDoor
set_option linter.unusedVariables false
set_option linter.unusedSimpArgs false
namespace Go.Proofs.YtpakphgeichopaaDoor
open Go.RowKit Go.SX Go.Proofs

theorem less_mid1 {a b : Slot} {L : Hp} : Less (a :: b :: L) (a :: L) := Less.sublist (.cons_cons _ (.cons _ (List.Sublist.refl _)))
theorem zerosV_flat {α : Type} (f : α → List Value) (x : α) (n : Nat) : zerosV (f x) n = (List.replicate n x).flatMap f := by
  unfold zerosV
  induction n with
  | zero => rfl
  | succ n ih => rw [List.replicate_succ, List.flatten_cons, ih, List.replicate_succ, List.flatMap_cons]
theorem Sl.take {α : Type} {sz : Nat} {R : (Addr → Value → Prop) → Addr → α → Prop} {C : Addr → Value → Prop} {A : Option Addr} {n c k : Nat} {xs : List α} (h : Sl sz R C (.slice A n c) xs) (hk : k ≤ n) : Sl sz R C (.slice A k c) (xs.take k) := by
  obtain ⟨A', c', he, hc, hA⟩ := h
  injection he with e1 e2 e3
  subst e1 e2 e3
  refine ⟨A, c, by rw [List.length_take, Nat.min_eq_left hk], by rw [List.length_take]; omega, fun j x hj => ?_⟩
  rw [List.getElem?_take] at hj
  split at hj
  · exact hA j x hj
  · cases hj
theorem cutA0 (b : Option Addr) (sz m : Nat) : cutA b sz m 0 = b := by
  unfold cutA
  split
  · rfl
  · cases b <;> simp [Addr.add_zero']
/-! A trace in which nothing is asked. -/
def pos (p : Nat) : Ras := ((p / 14 : Nat), (p % 14 : Nat), false, 0)
theorem pos_ok {p : Nat} (h : p < 3668) : okR (pos p) = true := by
  show okB ((p / 14 : Nat) : Int) ((p % 14 : Nat) : Int) 0 = true
  exact okB_of (by omega)
theorem idle_step {l c : Int} (h : okB l c 0 = true) : rasN (l, c, false, 0) default = if c + 1 = 14 then (if l + 1 = 262 then 0 else l + 1, 0, false, 0) else (l, c + 1, false, 0) := by
  show step l c false 0 0 0 false false 0 = _
  unfold step
  rw [if_pos ⟨h, by decide⟩]
  simp [tB, wB, onB]
theorem pos_step {p : Nat} (h : p < 3668) : rasN (pos p) default = if p + 1 = 3668 then pos 0 else pos (p + 1) := by
  have hs := idle_step (l := ((p / 14 : Nat) : Int)) (c := ((p % 14 : Nat) : Int)) (pos_ok h)
  have hp : rasN (pos p) default = _ := hs
  rw [hp]
  by_cases h1 : p % 14 = 13
  · rw [if_pos (by omega)]
    by_cases h2 : p + 1 = 3668
    · rw [if_pos h2, if_pos (by omega)]; rfl
    · rw [if_neg h2, if_neg (by omega)]
      have e1 : (p + 1) / 14 = p / 14 + 1 := by omega
      have e2 : (p + 1) % 14 = 0 := by omega
      unfold pos
      rw [e1, e2]; rfl
  · rw [if_neg (by omega), if_neg (by omega)]
    have e1 : (p + 1) / 14 = p / 14 := by omega
    have e2 : (p + 1) % 14 = p % 14 + 1 := by omega
    unfold pos
    rw [e1, e2]; simp
theorem pos_atZ {p : Nat} : atZ (pos p) = decide (p = 0) := by
  unfold atZ pos
  simp only
  rw [Bool.eq_iff_iff]
  simp only [Bool.and_eq_true, decide_eq_true_eq]
  omega
theorem rep_getD_default {α : Type} [Inhabited α] (n k : Nat) : (List.replicate n (default : α)).getD k default = default := by
  rw [List.getD_eq_getElem?_getD, List.getElem?_replicate]
  split <;> rfl
theorem took_none {p : Nat} {rows : List (List Int)} : tookN (pos p) default rows = rows := by
  unfold tookN
  rw [if_neg (by simp [takesN, tB, wB, pos])]
theorem still_at {n : Nat} : ∀ k, k + 1 < 3668 → stAt (pos 0) (List.replicate n default) (k + 1) = ⟨pos (k + 1), some (0, List.replicate 128 []), []⟩
  | 0, _ => by
    rw [stAt, rep_getD_default]
    show stF ⟨pos 0, none, []⟩ _ _ = _
    have hs := pos_step (p := 0) (by decide)
    rw [if_neg (by decide)] at hs
    rw [stF_go (a := 0) (rows := List.replicate 128 []) rfl (by rw [hs, pos_atZ]; rfl), took_none, hs]
  | k + 1, hk => by
    have hs := pos_step (p := k + 1) (by omega)
    rw [if_neg (by omega)] at hs
    rw [stAt, rep_getD_default, still_at k (by omega), stF_go (a := 0) (rows := List.replicate 128 []) (by unfold begunN; rw [if_neg (by rw [pos_atZ]; simp)]) (by rw [hs, pos_atZ]; simp), took_none, hs]
theorem zChk {n : Nat} (h : n ≤ 4194304) : chkL (List.replicate n default) = 0 := chkL_good (by rw [List.length_replicate]; omega) fun j hj => by rw [rep_getD_default]; rfl
theorem ofP_short : ofP (pos 0) (List.replicate 3667 default) = ([], 0) := by
  rw [ofP_ok (pos_ok (by decide)) (zChk (by decide)), List.length_replicate, still_at 3666 (by decide)]
theorem ofP_one : ofP (pos 0) (List.replicate 3668 default) = ([⟨0, List.replicate 128 [], true⟩], 0) := by
  rw [ofP_ok (pos_ok (by decide)) (zChk (by decide)), List.length_replicate, stAt, rep_getD_default, still_at 3666 (by decide)]
  have hs := pos_step (p := 3667) (by decide)
  rw [if_pos rfl] at hs
  rw [stF_fin (a := 0) (rows := List.replicate 128 []) (by unfold begunN; rw [if_neg (by rw [pos_atZ]; simp)]) (by rw [hs, pos_atZ]; rfl), took_none]
  simp only [List.nil_append, shortB, cnt_rep]
  rfl
/-! The frame of one byte. -/
def oneF : Fm := ⟨0, [129] :: List.replicate 127 [], true⟩
theorem oneF_sl {Γ : Ctx} {L : Hp} {g h c : Nat} (hg : some (g, Obj.cells ((List.replicate 128 (Value.slice none 0 0)).set 0 (.slice (some ⟨h, 0, none⟩) 1 c)).toArray 50 (0, 0)) ∈ L) (hh : some (h, Obj.cells [Value.int .u8 129].toArray 5 (0, 0)) ∈ L) (hc : 1 ≤ c) : SlR (Cell Γ L) (.slice (some ⟨g, 0, none⟩) 128 128) oneF.rows := by
  obtain ⟨i, hi⟩ := List.mem_iff_getElem?.1 hg
  obtain ⟨i2, hi2⟩ := List.mem_iff_getElem?.1 hh
  have hl128 : oneF.rows.length = 128 := by rw [oneF]; simp only [List.length_cons, List.length_replicate]
  refine ⟨_, 128, by rw [hl128], by rw [hl128]; exact Nat.le_refl _, fun j r hj => ⟨_, rfl, ?_⟩⟩
  have hjl : j < 128 := by have := (List.getElem?_eq_some_iff.1 hj).1; omega
  rw [Nat.mul_one, Addr.add_lit, Nat.zero_add]
  cases j with
  | zero =>
    simp only [oneF, List.getElem?_cons_zero, Option.some.injEq] at hj
    subst hj
    exact ⟨_, Cell.at i hi rfl, SlI.own (xs := [129]) i2 hi2 rfl hc⟩
  | succ j =>
    simp only [oneF, List.getElem?_cons_succ] at hj
    rw [List.getElem?_replicate] at hj
    split at hj
    · cases hj
      refine ⟨.slice none 0 0, Cell.at i hi ?_, ⟨none, 0, rfl, Nat.le_refl _, fun j x hj => by simp at hj⟩⟩
      rw [List.getElem?_set, if_neg (by omega), List.getElem?_replicate, if_pos hjl]
    · cases hj
theorem oneF_may : mayF oneF = true := by decide +kernel
theorem oneF_len : (txt (rowsL oneF.rows)).size = 136 := by decide +kernel
theorem oneF_head : (txt (rowsL oneF.rows)).extract 0 9 = ⟨#[35, 46, 46, 46, 46, 46, 46, 35, 10]⟩ := by decide +kernel
theorem oneF_show : showS oneF = (txt (rowsL oneF.rows), 0) := if_pos oneF_may
set_option maxHeartbeats 1000000 in
set_option maxRecDepth 100000 in
theorem empty_spec {Γ : Ctx} (hP : Γ.P = Tryd.prog) {L : Hp} {h n c : Nat} :
    SCall Γ 26 #[(.slice (some ⟨h, 0, none⟩) n c)] L (fun v L' => ∃ g, v = .agg #[.int .i64 0, .slice (some ⟨g, 0, none⟩) 128 128, .bool true] ∧ L' = some (g, .cells ((List.replicate 128 (.slice none 0 0)).set 0 (.slice (some ⟨h, 0, none⟩) n c)).toArray 50 (0, 0)) :: L) := by
  refine SCall.enter (n := 11) (resX Γ [.cell 2 41]) (hP ▸ Tryd.func26) rfl rfl (by simp) (resX_ok rfl) ?_
  refine SX.seq_k fun K1 hK1 => ?_
  refine SX.region_d [some 2] rfl (fun ops hops => ?_)
  unfold Dsts at hops
  simp (maxSteps := 1000000) (dsimp := false) (disch := omega) only [go_sem, ia_someH, hP, hops]
  intro b2
  try with_reducible refine stI ?_
  try simp (maxSteps := 1000000) (dsimp := false) (disch := omega) only [go_sem, ia_someH, hP, hops]
  refine hK1 _ _ ?_
  try clear hK1 K1
  refine SX.seq_k fun K2 hK2 => ?_
  refine SX.region_d [some 4, some 5, some 3, none] rfl (fun ops hops => ?_)
  unfold Dsts at hops
  simp (maxSteps := 1000000) (dsimp := false) (disch := omega) only [go_sem, ia_someH, hP, hops]
  intro g
  try with_reducible refine stI ?_
  try simp (maxSteps := 1000000) (dsimp := false) (disch := omega) only [go_sem, ia_someH, hP, hops]
  rw [zerosV_one]
  try with_reducible refine stI ?_
  try simp (maxSteps := 1000000) (dsimp := false) (disch := omega) only [go_sem, ia_someH, hP, hops]
  intro b3
  try with_reducible refine stI ?_
  try simp (maxSteps := 1000000) (dsimp := false) (disch := omega) only [go_sem, ia_someH, hP, hops]
  refine ⟨0, _, _, _, rfl, (by simp), .inr (by decide), ?_⟩
  try with_reducible refine stI ?_
  try simp (maxSteps := 1000000) (dsimp := false) (disch := omega) only [go_sem, ia_someH, hP, hops]
  refine hK2 _ _ ?_
  try clear hK2 K2
  refine SX.seq_k fun K3 hK3 => ?_
  refine SX.region_d [some 6, some 7, some 8, some 9, none] rfl (fun ops hops => ?_)
  unfold Dsts at hops
  simp (maxSteps := 1000000) (dsimp := false) (disch := omega) only [go_sem, ia_someH, hP, hops]
  refine ⟨_, Cell.at 0 rfl rfl, ?_⟩
  try with_reducible refine stI ?_
  try simp (maxSteps := 1000000) (dsimp := false) (disch := omega) only [go_sem, ia_someH, hP, hops]
  refine ⟨1, _, _, _, rfl, (by simp), .inr (by decide), ?_⟩
  try with_reducible refine stI ?_
  try simp (maxSteps := 1000000) (dsimp := false) (disch := omega) only [go_sem, ia_someH, hP, hops]
  refine hK3 _ _ ?_
  try clear hK3 K3
  refine SX.seq_k fun K4 hK4 => ?_
  refine SX.region_d [some 10, none] rfl (fun ops hops => ?_)
  unfold Dsts at hops
  simp (maxSteps := 1000000) (dsimp := false) (disch := omega) only [go_sem, ia_someH, hP, hops]
  refine ⟨_, Cell.at 0 rfl rfl, _, Cell.at 0 rfl rfl, _, Cell.at 0 rfl rfl, ?_⟩
  try with_reducible refine stI ?_
  try simp (maxSteps := 1000000) (dsimp := false) (disch := omega) only [go_sem, ia_someH, hP, hops]
  refine ⟨2, _, _, _, rfl, (by simp), .inr (by decide), ?_⟩
  try with_reducible refine stI ?_
  try simp (maxSteps := 1000000) (dsimp := false) (disch := omega) only [go_sem, ia_someH, hP, hops]
  refine hK4 _ _ ?_
  try clear hK4 K4
  refine SX.ret ?_
  simp only [andThen_normal, andThen_ret, andThen_exit, inBlk_normal, inBlk_ret, inBlk_exit, Nat.reduceEqDiff, if_true, if_false, ↓reduceIte, retQ_ret]
  try simp only [res0, res1, res2, res3, stK_e, resX, resK, oneOr, ld_ptr, loadVC, loadN, List.nil_append, List.cons_append, Nat.reduceAdd, Nat.add_zero, Nat.zero_add, Addr.add_lit, Addr.add_zero', add_addS, T.elA_41, T.lay_41, T.szA_41, T.zr_41, Tryd.underlying41, go_sem, ia_someH, hP]
  exact ⟨_, _, Less.drops (less_mid1), ⟨_, Cell.at 2 rfl rfl, _, Cell.at 2 rfl rfl, _, Cell.at 2 rfl rfl, rfl⟩, g, rfl, rfl⟩

end Go.Proofs.YtpakphgeichopaaDoor
