/- A part of a proof: contracts and plain facts that it stands on. -/
import Derived.Test.YtpakphgeichopaaDoorCD
import Derived.Shelf.Strings.Builder1
import Derived.Shelf.Strings.BuilderF
import Derived.Shelf.Strings.BuilderK
import Derived.Shelf.Strings.Search1
import Derived.Shelf.Strings.Search2
import Derived.Shelf.Strings.Cut
import Derived.Shelf.LaysM
import Derived.Shelf.Strings.Shaped
import Derived.Shelf.Strings.BuilderCap
import Derived.Test.YtpakphgeichopaaDoorProg
import Derived.Lib.Builder
import Derived.Laws.Externs
set_option linter.unusedVariables false
set_option linter.unusedSimpArgs false
namespace Go.Proofs.YtpakphgeichopaaDoor
open Go.RowKit Go.SX
open Go.SX renaming ia_someH → Φa

def nowR : Option Ff → Hp
  | none => []
  | some p => p.2.seg
def nowRS : Option Ff → Option (Int × List (List Int))
  | none => none
  | some p => some (p.1.at_, p.1.rows)
theorem less_ins2 {a b : Slot} {L : Hp} : Less (a :: b :: L) (a :: b :: none :: L) := (Less.none _).trans (Less.perm ((List.Perm.swap _ _ _).trans (.cons _ (List.Perm.swap _ _ _))))
theorem less_begun2 {q x r o : Slot} {N R : Hp} : Less (q :: x :: r :: o :: (N ++ R)) (x :: r :: o :: (q :: List.replicate 128 none ++ R)) := by
  have h1 : Less (q :: x :: r :: o :: (N ++ R)) (q :: x :: r :: o :: R) := Less.sublist (.cons_cons _ (.cons_cons _ (.cons_cons _ (.cons_cons _ (List.sublist_append_right N R)))))
  refine (h1.trans (Less.nones 128 _)).trans (Less.perm ?_)
  have e1 : (x :: r :: o :: (q :: List.replicate 128 none ++ R) : Hp) = [x, r, o] ++ ([q] ++ (List.replicate 128 none ++ R)) := by simp
  have e2 : (List.replicate 128 none ++ (q :: x :: r :: o :: R) : Hp) = List.replicate 128 none ++ ([q] ++ ([x, r, o] ++ R)) := by simp
  rw [e1, e2]
  have p1 : (List.replicate 128 none ++ ([q] ++ ([x, r, o] ++ R)) : Hp).Perm ([q] ++ ([x, r, o] ++ R) ++ List.replicate 128 none) := List.perm_append_comm
  refine p1.trans ?_
  have p2 : ([q] ++ ([x, r, o] ++ R) : Hp).Perm ([x, r, o] ++ ([q] ++ R)) := by
    rw [← List.append_assoc, ← List.append_assoc]
    exact List.Perm.append_right _ List.perm_append_comm
  refine (p2.append_right _).trans ?_
  rw [List.append_assoc, List.append_assoc]
  refine List.Perm.append_left _ (List.Perm.append_left _ ?_)
  exact List.perm_append_comm
theorem less_fin2 {a b c e s : Slot} {fs : List Ff} {p : Ff} {L : Hp} : Less (a :: b :: c :: e :: s :: (p.2.seg ++ (segs fs ++ L))) (c :: e :: s :: (nowR none ++ (segs (fs ++ [p]) ++ L))) := by
  rw [segs_app, List.append_assoc]
  exact Less.drops (Less.drop _ _)
theorem get5 {a b c d f : Slot} {S R : Hp} {k : Nat} (h : k < S.length) : (a :: b :: c :: d :: f :: (S ++ R))[k + 5]? = some (S.getD k none) := by
  show (S ++ R)[k]? = _
  rw [List.getElem?_append_left h, getD_get (d := Option.none) h]
theorem lessG20 {x n b s : Slot} {d : Fd} {R : Hp} : Less (x :: n :: b :: s :: (d.seg ++ R)) (n :: some (d.g, .cells d.vals.toArray 50 (0, 0)) :: R) := by
  have h : Less (x :: n :: b :: s :: (d.seg ++ R)) (n :: (d.seg ++ R)) := Less.sublist (.cons _ (.cons_cons _ (.cons _ (.cons _ (List.Sublist.refl _)))))
  exact h.trans (Less.sublist (.cons_cons _ (.cons_cons _ (List.sublist_append_right _ _))))
theorem less20 {a b c e s s' : Slot} {d : Fd} {R : Hp} {k : Nat} {V : List Value} (h : k < d.ss.length) : Less (a :: b :: c :: e :: s :: ((d.seg ++ R).set (k + 1) s').set 0 (some (d.g, .cells V.toArray 50 (0, 0)))) (b :: c :: e :: s :: ((Fd.mk d.g V (d.ss.set k s')).seg ++ R)) := by
  rw [seg_set h]
  exact Less.drop _ _
theorem less_end2 {a b s : Slot} {M R : Hp} : Less (a :: b :: s :: (M ++ R)) (s :: R) := Less.drops less_end
theorem refStepR_spec {Γ : Ctx} (hP : Γ.P = Tryd.prog) {L : Hp} {X : Ras} {r : Rc} {ad data : Int} {own pulse : Bool} :
    SCall Γ 20 #[(.agg #[.int .i64 X.1, .int .i64 X.2.1, .bool X.2.2.1, .int .i64 X.2.2.2]), (.agg #[.int .u8 r.code, .int .u16 ad, .bool r.rd, .bool r.wr, .bool own, .int .u8 data, .int .u8 r.port, .bool pulse]), (.int .u8 r.md)] L (fun v L' => v = .agg #[.int .i64 (rasN X r).1, .int .i64 (rasN X r).2.1, .bool (rasN X r).2.2.1, .int .i64 (rasN X r).2.2.2] ∧ L' = L) := refStep_spec hP
theorem refTakesR_spec {Γ : Ctx} (hP : Γ.P = Tryd.prog) {L : Hp} {X : Ras} {r : Rc} {ad data : Int} {own pulse : Bool} :
    SCall Γ 35 #[(.agg #[.int .i64 X.1, .int .i64 X.2.1, .bool X.2.2.1, .int .i64 X.2.2.2]), (.agg #[.int .u8 r.code, .int .u16 ad, .bool r.rd, .bool r.wr, .bool own, .int .u8 data, .int .u8 r.port, .bool pulse])] L (fun v L' => v = .bool (takesN X r) ∧ L' = L) := refTakes_spec hP
set_option maxHeartbeats 1000000 in
set_option maxRecDepth 100000 in
theorem refOf_spec {Γ : Ctx} (hP : Γ.P = Tryd.prog) {L : Hp} {x : Ras} {v : Value} {l : List Rc} (hl : SlC (Cell Γ L) v l) (hlm : l.length ≤ 9000000000000000000) :
    SCall Γ 14 #[(.agg #[.int .i64 x.1, .int .i64 x.2.1, .bool x.2.2.1, .int .i64 x.2.2.2]), v] L (OfR x l L) := by
  obtain ⟨A, c, rfl, hc⟩ := Sl.shape hl
  obtain ⟨a1, e1, _, hA⟩ := Sl.at1 hl
  refine SCall.enter (n := 120) (res2 4 5) (hP ▸ Tryd.func14) rfl rfl (by simp) (res2_ok rfl) ?_
  refine SX.seq_k fun K1 hK1 => ?_
  refine SX.region_d [some 2, some 4, some 5] rfl (fun ops hops => ?_)
  unfold Dsts at hops
  simp (maxSteps:=1000000)(dsimp:=false)(disch:=omega) only [go_sem, Φa, hP, hops]
  intro bR
  try with_reducible refine stI ?_
  try simp (maxSteps:=1000000)(dsimp:=false)(disch:=omega) only [go_sem, Φa, hP, hops]
  refine hK1 _ _ ?_
  try clear hK1 K1
  refine SX.seq_k fun K2 hK2 => ?_
  refine SX.region_d [some 15, some 16, some 6] rfl (fun ops hops => ?_)
  unfold Dsts at hops
  simp (maxSteps:=1000000)(dsimp:=false)(disch:=omega) only [go_sem, Φa, hP, hops]
  refine ⟨_, Cell.at 0 rfl rfl, _, Cell.at 0 rfl rfl, _, Cell.at 0 rfl rfl, _, Cell.at 0 rfl rfl, ?_⟩
  try with_reducible refine stI ?_
  try simp (maxSteps:=1000000)(dsimp:=false)(disch:=omega) only [go_sem, Φa, hP, hops]
  refine SCall.mono (refCheck_spec hP) ?_
  rintro v_ L_ ⟨hv_, hL_⟩
  rw [hv_, hL_]
  clear hv_ hL_ v_ L_
  try with_reducible refine stI ?_
  try simp (maxSteps:=1000000)(dsimp:=false)(disch:=omega) only [go_sem, Φa, hP, hops]
  refine hK2 _ _ ?_
  try clear hK2 K2
  refine SX.seq_k fun K3 hK3 => ?_
  refine SX.seq_k fun K4 hK4 => ?_
  refine SX.region_d [some 17, some 18] rfl (fun ops hops => ?_)
  unfold Dsts at hops
  simp (maxSteps:=1000000)(dsimp:=false)(disch:=omega) only [go_sem, Φa, hP, hops]
  repeat' ((first | refine And.intro (by omega) ?_ | fail); try (with_reducible refine stI ?_); try simp (maxSteps:=1000000)(dsimp:=false)(disch:=omega) only [go_sem, Φa, hP, hops])
  refine hK4 _ _ ?_
  try clear hK4 K4
  refine SX.cond_k fun X5 Y5 hX5 hY5 => ?_
  simp (maxSteps:=1000000)(dsimp:=false)(disch:=omega) only [go_sem, Φa, hP, condVC]
  refine ⟨fun hc18 => hX5 ?_, fun hc18 => hY5 ?_⟩
  · clear hX5 hY5 X5 Y5
    refine SX.seq_k fun K6 hK6 => ?_
    refine SX.region_d [some 19, some 4, some 5] rfl (fun ops hops => ?_)
    unfold Dsts at hops
    simp (maxSteps:=1000000)(dsimp:=false)(disch:=omega) only [go_sem, Φa, hP, hops]
    refine hK6 _ _ ?_
    try clear hK6 K6
    refine SX.ret ?_
    simp only [andThen_normal, andThen_ret, andThen_exit, inBlk_normal, inBlk_ret, inBlk_exit, Nat.reduceEqDiff, if_true, if_false, ↓reduceIte, retQ_ret]
    try simp only [res0, res1, res2, res3, stK_e, go_sem, Φa, hP]
    refine ⟨_, _, (Less.drop _ _).trans (Less.none _), rfl, ?_⟩
    rw [← show (ofP x l).2 = chk x.1 x.2.1 x.2.2.2 by rw [ofP_no hc18]]
    exact OfR.none (by rw [ofP_no hc18])
  · clear hX5 hY5 X5 Y5
    refine SX.skip ?_
    try simp only [andThen_normal, andThen_ret, andThen_exit, inBlk_normal, inBlk_ret, inBlk_exit, Nat.reduceEqDiff, if_true, if_false, ↓reduceIte]
    refine hK3 _ _ ?_
    try clear hK3 K3
    refine SX.seq_k fun K7 hK7 => ?_
    have hok : okR x = true := ok_of (by simpa using hc18)
    refine SX.region_d [some 20, some 21, some 6] rfl (fun ops hops => ?_)
    unfold Dsts at hops
    simp (maxSteps:=1000000)(dsimp:=false)(disch:=omega) only [go_sem, Φa, hP, hops]
    refine SCall.mono (refCheckL_spec hP (SlC.mono (fun a v h => Cell.cons _ h) hl)) ?_
    rintro v_ L_ ⟨hv_, hL_⟩
    rw [hv_, hL_]
    clear hv_ hL_ v_ L_
    try with_reducible refine stI ?_
    try simp (maxSteps:=1000000)(dsimp:=false)(disch:=omega) only [go_sem, Φa, hP, hops]
    refine hK7 _ _ ?_
    try clear hK7 K7
    refine SX.live [1, 2, 6] (fun T1 hT1 => ?_)
    simp only [forall_mem_cons', forall_mem_nil', go_sem, Φa, hP] at hT1
    obtain ⟨h1_1, h1_2, h1_6⟩ := hT1
    refine SX.seq_k fun K8 hK8 => ?_
    refine SX.seq_k fun K9 hK9 => ?_
    refine SX.region_d [some 22, some 23] rfl (fun ops hops => ?_)
    unfold Dsts at hops
    simp (maxSteps:=1000000)(dsimp:=false)(disch:=omega) only [go_sem, Φa, hP, h1_1, h1_2, h1_6, hops]
    repeat' ((first | refine And.intro (by omega) ?_ | fail); try (with_reducible refine stI ?_); try simp (maxSteps:=1000000)(dsimp:=false)(disch:=omega) only [go_sem, Φa, hP, h1_1, h1_2, h1_6, hops])
    refine hK9 _ _ ?_
    try clear hK9 K9
    refine SX.cond_k fun X10 Y10 hX10 hY10 => ?_
    simp (maxSteps:=1000000)(dsimp:=false)(disch:=omega) only [go_sem, Φa, hP, h1_1, h1_2, h1_6, condVC]
    refine ⟨fun hc23 => hX10 ?_, fun hc23 => hY10 ?_⟩
    · clear hX10 hY10 X10 Y10
      refine SX.seq_k fun K11 hK11 => ?_
      refine SX.region_d [some 24, some 4, some 5] rfl (fun ops hops => ?_)
      unfold Dsts at hops
      simp (maxSteps:=1000000)(dsimp:=false)(disch:=omega) only [go_sem, Φa, hP, h1_1, h1_2, h1_6, hops]
      refine hK11 _ _ ?_
      try clear hK11 K11
      refine SX.ret ?_
      simp only [andThen_normal, andThen_ret, andThen_exit, inBlk_normal, inBlk_ret, inBlk_exit, Nat.reduceEqDiff, if_true, if_false, ↓reduceIte, retQ_ret]
      try simp only [res0, res1, res2, res3, stK_e, go_sem, Φa, hP, h1_1, h1_2, h1_6]
      refine ⟨_, _, (Less.drop _ _).trans (Less.none _), rfl, ?_⟩
      have hb := ofP_bad (l := l) hok hc23
      rw [← show (ofP x l).2 = chkL l by rw [hb]]
      exact OfR.none (by rw [hb])
    · clear hX10 hY10 X10 Y10
      refine SX.skip ?_
      try simp only [andThen_normal, andThen_ret, andThen_exit, inBlk_normal, inBlk_ret, inBlk_exit, Nat.reduceEqDiff, if_true, if_false, ↓reduceIte]
      refine hK8 _ _ ?_
      try clear hK8 K8
      refine SX.seq_k fun K12 hK12 => ?_
      have hgood : chkL l = 0 := by simpa using hc23
      obtain ⟨hll, hmay⟩ := chkL_zero hgood
      refine SX.region_d [some 7] rfl (fun ops hops => ?_)
      unfold Dsts at hops
      simp (maxSteps:=1000000)(dsimp:=false)(disch:=omega) only [go_sem, Φa, hP, h1_1, h1_2, h1_6, hops]
      refine hK12 _ _ ?_
      try clear hK12 K12
      refine SX.seq_k fun K13 hK13 => ?_
      refine SX.region_d [some 8] rfl (fun ops hops => ?_)
      unfold Dsts at hops
      simp (maxSteps:=1000000)(dsimp:=false)(disch:=omega) only [go_sem, Φa, hP, h1_1, h1_2, h1_6, hops]
      refine hK13 _ _ ?_
      try clear hK13 K13
      refine SX.seq_k fun K14 hK14 => ?_
      refine SX.region_d [some 25, some 9, none] rfl (fun ops hops => ?_)
      unfold Dsts at hops
      simp (maxSteps:=1000000)(dsimp:=false)(disch:=omega) only [go_sem, Φa, hP, h1_1, h1_2, h1_6, hops]
      intro bN
      try with_reducible refine stI ?_
      try simp (maxSteps:=1000000)(dsimp:=false)(disch:=omega) only [go_sem, Φa, hP, h1_1, h1_2, h1_6, hops]
      refine ⟨0, _, _, _, rfl, by simp, .inr (by decide), ?_⟩
      try with_reducible refine stI ?_
      try simp (maxSteps:=1000000)(dsimp:=false)(disch:=omega) only [go_sem, Φa, hP, h1_1, h1_2, h1_6, hops]
      refine hK14 _ _ ?_
      try clear hK14 K14
      refine SX.seq_k fun K15 hK15 => ?_
      refine SX.seq_k fun K16 hK16 => ?_
      refine SX.less less_ins2 ?_
      refine SX.region_d [some 10] rfl (fun ops hops => ?_)
      unfold Dsts at hops
      simp (maxSteps:=1000000)(dsimp:=false)(disch:=omega) only [go_sem, Φa, hP, h1_1, h1_2, h1_6, hops]
      refine hK16 _ _ ?_
      try clear hK16 K16
      refine SX.block ?_
      refine SX.live [1, 2, 7, 8, 9, 10] (fun T2 hT2 => ?_)
      simp only [forall_mem_cons', forall_mem_nil', go_sem, Φa, hP, h1_1, h1_2, h1_6] at hT2
      obtain ⟨h2_1, h2_2, h2_7, h2_8, h2_9, h2_10⟩ := hT2
      clear h1_1 h1_2 h1_6 T1
      refine SX.loop_k (fun (ss : (Nat) × (Ras) × (Option Ff) × (Int) × (Value) × (Bool) × (Value) × (Slot) × (List Ff)) T L' => (fun (k : Nat) (X : Ras) (nw : Option Ff) (na : Int) (nv : Value) (nb : Bool) (vo : Value) (so : Slot) (fs : List Ff) => T 7 = vo ∧ T 8 = .bool nw.isSome ∧ T 10 = .int .i64 (k : Int) ∧ T 1 = T2 1 ∧ T 2 = T2 2 ∧ T 9 = T2 9 ∧ L' = some (bN, .cells [.int .i64 na, nv, .bool nb].toArray 41 (0, 0)) :: some (bR, .cells [.int .i64 X.1, .int .i64 X.2.1, .bool X.2.2.1, .int .i64 X.2.2.2].toArray 24 (0, 0)) :: so :: (nowR nw ++ (segs fs ++ L)) ∧ (k ≤ l.length ∧ RowF vo fs so ∧ FsOk fs ∧ (∀ p, nw = some p → FdOk p.1.rows p.2 ∧ na = p.1.at_ ∧ nv = p.2.val) ∧ nv.cells.size = 1 ∧ stAt x l k = ⟨X, nowRS nw, fs.map (·.1)⟩)) (ss.1) (ss.2.1) (ss.2.2.1) (ss.2.2.2.1) (ss.2.2.2.2.1) (ss.2.2.2.2.2.1) (ss.2.2.2.2.2.2.1) (ss.2.2.2.2.2.2.2.1) (ss.2.2.2.2.2.2.2.2)) (fun (ss : (Nat) × (Ras) × (Option Ff) × (Int) × (Value) × (Bool) × (Value) × (Slot) × (List Ff)) => (fun (k : Nat) (X : Ras) (nw : Option Ff) (na : Int) (nv : Value) (nb : Bool) (vo : Value) (so : Slot) (fs : List Ff) => l.length - k) (ss.1) (ss.2.1) (ss.2.2.1) (ss.2.2.2.1) (ss.2.2.2.2.1) (ss.2.2.2.2.2.1) (ss.2.2.2.2.2.2.1) (ss.2.2.2.2.2.2.2.1) (ss.2.2.2.2.2.2.2.2)) (0, x, none, 0, .slice none 0 0, false, .slice none 0 0, none, []) ?_ ?_
      · try dsimp only
        refine ⟨?_, ?_, ?_, ?_, ?_, ?_, ?_, ?_⟩
        · first | exact h2_7 | (rw [h2_7]; rfl) | (rw [h2_7]; simp; done)
        · first | exact h2_8 | (rw [h2_8]; rfl) | (rw [h2_8]; simp; done)
        · first | exact h2_10 | (rw [h2_10]; rfl) | (rw [h2_10]; simp; done)
        · rfl
        · rfl
        · rfl
        · rfl
        · exact ⟨Nat.zero_le _, RowL.nil _ _ _, FsOk.nil, fun q hq => (by cases hq), rfl, rfl⟩
      · intro ss T3 L3 hI K17 hK17
        obtain ⟨k, X, nw, na, nv, nb, vo, so, fs⟩ := ss
        try dsimp only at hI hK17
        simp only [h2_1, h2_2, h2_9] at hI hK17
        obtain ⟨h3_7, h3_8, h3_10, h3_1, h3_2, h3_9, hL3, ⟨hk, hrow, hfs, hnw, hnv, hst⟩⟩ := hI
        replace hL3 := hL3.symm
        subst hL3
        clear h2_1 h2_2 h2_7 h2_8 h2_9 h2_10 T2
        refine SX.seq_k fun K18 hK18 => ?_
        refine SX.seq_k fun K19 hK19 => ?_
        refine SX.region_d [some 26, some 27, some 28, some 29] rfl (fun ops hops => ?_)
        unfold Dsts at hops
        simp (maxSteps:=1000000)(dsimp:=false)(disch:=omega) only [go_sem, Φa, hP, h3_7, h3_8, h3_10, h3_1, h3_2, h3_9, hops]
        repeat' ((first | refine And.intro (by omega) ?_ | fail); try (with_reducible refine stI ?_); try simp (maxSteps:=1000000)(dsimp:=false)(disch:=omega) only [go_sem, Φa, hP, h3_7, h3_8, h3_10, h3_1, h3_2, h3_9, hops])
        refine hK19 _ _ ?_
        try clear hK19 K19
        refine SX.cond_k fun X20 Y20 hX20 hY20 => ?_
        simp (maxSteps:=1000000)(dsimp:=false)(disch:=omega) only [go_sem, Φa, hP, h3_7, h3_8, h3_10, h3_1, h3_2, h3_9, condVC]
        refine ⟨fun hc29 => hX20 ?_, fun hc29 => hY20 ?_⟩
        · clear hX20 hY20 X20 Y20
          refine SX.skip ?_
          try simp only [andThen_normal, andThen_ret, andThen_exit, inBlk_normal, inBlk_ret, inBlk_exit, Nat.reduceEqDiff, if_true, if_false, ↓reduceIte]
          refine hK18 _ _ ?_
          try clear hK18 K18
          refine SX.seq_k fun K21 hK21 => ?_
          refine SX.block ?_
          refine SX.live [1, 2, 7, 8, 9, 10] (fun T4 hT4 => ?_)
          simp only [forall_mem_cons', forall_mem_nil', go_sem, Φa, hP, h3_7, h3_8, h3_10, h3_1, h3_2, h3_9] at hT4
          obtain ⟨h4_1, h4_2, h4_7, h4_8, h4_9, h4_10⟩ := hT4
          clear h3_7 h3_8 h3_10 h3_1 h3_2 h3_9 T3
          have hkl : k < l.length := by omega
          have hck0 := hA k _ (getD_get (d := default) hkl)
          have hstep : stAt x l (k + 1) = stF ⟨X, nowRS nw, fs.map (·.1)⟩ k (l.getD k default) := by rw [stAt, hst]
          have hXo : okR X = true := by have := stAt_ok hok hmay k hk; rw [hst] at this; exact this
          have hX := of_okB hXo
          have hcn := (stAt_cnt x l k).1
          rw [hst] at hcn
          have hfl : fs.length ≤ k := by have := stAt_out x l k; rw [hst] at this; simpa using this
          generalize l.getD k default = r at hck0 hstep
          have hck : ∀ i u, (Rc.cells r)[i]? = some u → Cell Γ L ((a1.add (k * 8)).add i) u := hck0
          refine SX.join (fun (ss : (Option Ff) × (Int) × (Value) × (Bool)) T L' => (fun (nw1 : Option Ff) (na1 : Int) (nv1 : Value) (nb1 : Bool) => T 8 = .bool nw1.isSome ∧ T 1 = T4 1 ∧ T 2 = T4 2 ∧ T 7 = T4 7 ∧ T 9 = T4 9 ∧ T 10 = T4 10 ∧ L' = some (bN, .cells [.int .i64 na1, nv1, .bool nb1].toArray 41 (0, 0)) :: some (bR, .cells [.int .i64 X.1, .int .i64 X.2.1, .bool X.2.2.1, .int .i64 X.2.2.2].toArray 24 (0, 0)) :: so :: (nowR nw1 ++ (segs fs ++ L)) ∧ ((∀ p, nw1 = some p → FdOk p.1.rows p.2 ∧ na1 = p.1.at_ ∧ nv1 = p.2.val) ∧ nv1.cells.size = 1 ∧ nowRS nw1 = begunN X (nowRS nw) k)) (ss.1) (ss.2.1) (ss.2.2.1) (ss.2.2.2)) (fun K22 hK22 => ?_) ?_
          · simp only [h4_1, h4_2, h4_7, h4_9, h4_10] at hK22
            refine SX.seq_k fun K23 hK23 => ?_
            refine SX.region_xd [some 32, some 33, some 34, some 35, some 36, some 37, some 38, some 39] rfl (fun ops hops => ?_)
            unfold Dsts at hops
            refine RX.live [1, 2, 7, 8, 9, 10] (fun T5 hT5 => ?_)
            simp only [forall_mem_cons', forall_mem_nil', go_sem, Φa, hP, h4_1, h4_2, h4_7, h4_8, h4_9, h4_10] at hT5
            obtain ⟨h5_1, h5_2, h5_7, h5_8, h5_9, h5_10⟩ := hT5
            clear h4_1 h4_2 h4_7 h4_8 h4_9 h4_10 T4
            refine RX.join 8 (fun (ss : Unit) T L' => T 39 = .bool (atZ X) ∧ T 1 = T5 1 ∧ T 2 = T5 2 ∧ T 7 = T5 7 ∧ T 8 = T5 8 ∧ T 9 = T5 9 ∧ T 10 = T5 10 ∧ L' = some (bN, .cells [.int .i64 na, nv, .bool nb].toArray 41 (0, 0)) :: some (bR, .cells [.int .i64 X.1, .int .i64 X.2.1, .bool X.2.2.1, .int .i64 X.2.2.2].toArray 24 (0, 0)) :: so :: (nowR nw ++ (segs fs ++ L)) ∧ (True)) (fun K24 hK24 => ?_) ?_
            · simp only [h5_1, h5_2, h5_7, h5_8, h5_9, h5_10] at hK24
              simp (maxSteps:=1000000)(dsimp:=false)(disch:=omega) only [go_sem, Φa, hP, h5_1, h5_2, h5_7, h5_8, h5_9, h5_10, hops]
              repeat' (first | refine iteB (fun hg => ?_) (fun hg => ?_) | refine iteI (fun hg => ?_) (fun hg => ?_) | ((first | refine And.intro (by omega) ?_ | refine ⟨_, Cell.at 0 rfl rfl, ?_⟩ | refine ⟨_, Cell.at 1 rfl rfl, ?_⟩ | refine ⟨_, Cell.at 2 rfl rfl, ?_⟩ | fail); try (with_reducible refine stI ?_); try simp (maxSteps:=1000000)(dsimp:=false)(disch:=omega) only [go_sem, Φa, hP, h5_1, h5_2, h5_7, h5_8, h5_9, h5_10, hops]) | fail)
              all_goals
                refine hK24 () _ (some (bN, .cells [.int .i64 na, nv, .bool nb].toArray 41 (0, 0)) :: some (bR, .cells [.int .i64 X.1, .int .i64 X.2.1, .bool X.2.2.1, .int .i64 X.2.2.2].toArray 24 (0, 0)) :: so :: (nowR nw ++ (segs fs ++ L))) _ (by first | exact Less.refl _ | exact Less.drop _ _ | exact Less.drops (Less.drop _ _) | exact Less.drops (Less.drops (Less.drop _ _)) | exact Less.drops (Less.drops (Less.drops (Less.drop _ _))) | exact Less.drops (Less.drops (Less.drops (Less.drops (Less.drop _ _))))) ?_
                try dsimp only
                refine ⟨?_, ?_, ?_, ?_, ?_, ?_, ?_, ?_, ?_⟩
                · simp (maxSteps:=1000000)(dsimp:=false)(disch:=omega) only [go_sem, Φa, hP, h5_1, h5_2, h5_7, h5_8, h5_9, h5_10]
                  first | done | rfl | (refine congrArg Value.bool ?_; unfold atZ; simp_all; done) | (refine congrArg Value.bool ?_; simp_all; done)
                · simp (maxSteps:=1000000)(dsimp:=false)(disch:=omega) only [go_sem, Φa, hP, h5_1, h5_2, h5_7, h5_8, h5_9, h5_10]
                · simp (maxSteps:=1000000)(dsimp:=false)(disch:=omega) only [go_sem, Φa, hP, h5_1, h5_2, h5_7, h5_8, h5_9, h5_10]
                · simp (maxSteps:=1000000)(dsimp:=false)(disch:=omega) only [go_sem, Φa, hP, h5_1, h5_2, h5_7, h5_8, h5_9, h5_10]
                · simp (maxSteps:=1000000)(dsimp:=false)(disch:=omega) only [go_sem, Φa, hP, h5_1, h5_2, h5_7, h5_8, h5_9, h5_10]
                · simp (maxSteps:=1000000)(dsimp:=false)(disch:=omega) only [go_sem, Φa, hP, h5_1, h5_2, h5_7, h5_8, h5_9, h5_10]
                · simp (maxSteps:=1000000)(dsimp:=false)(disch:=omega) only [go_sem, Φa, hP, h5_1, h5_2, h5_7, h5_8, h5_9, h5_10]
                · rfl
                · trivial
            · intro ss T6 L6 hI
              simp only [h5_1, h5_2, h5_7, h5_8, h5_9, h5_10] at hI 
              obtain ⟨h6_39, h6_1, h6_2, h6_7, h6_8, h6_9, h6_10, hL6, hinv⟩ := hI
              replace hL6 := hL6.symm
              subst hL6
              clear h5_1 h5_2 h5_7 h5_8 h5_9 h5_10 T5
              refine RX.done ?_
              simp (maxSteps:=1000000)(dsimp:=false)(disch:=omega) only [go_sem, Φa, hP, h6_39, h6_1, h6_2, h6_7, h6_8, h6_9, h6_10, hops]
              refine hK23 _ _ ?_
              try clear hK23 K23
              refine SX.cond_k fun X25 Y25 hX25 hY25 => ?_
              simp (maxSteps:=1000000)(dsimp:=false)(disch:=omega) only [go_sem, Φa, hP, h6_39, h6_1, h6_2, h6_7, h6_8, h6_9, h6_10, condVC]
              refine ⟨fun hc39 => hX25 ?_, fun hc39 => hY25 ?_⟩
              · clear hX25 hY25 X25 Y25
                refine SX.seq_k fun K26 hK26 => ?_
                refine SX.region_d [some 8] rfl (fun ops hops => ?_)
                unfold Dsts at hops
                simp (maxSteps:=1000000)(dsimp:=false)(disch:=omega) only [go_sem, Φa, hP, h6_39, h6_1, h6_2, h6_7, h6_8, h6_9, h6_10, hops]
                refine hK26 _ _ ?_
                try clear hK26 K26
                refine SX.region_d [some 40, some 41, some 42, none] rfl (fun ops hops => ?_)
                unfold Dsts at hops
                simp (maxSteps:=1000000)(dsimp:=false)(disch:=omega) only [go_sem, Φa, hP, h6_39, h6_1, h6_2, h6_7, h6_8, h6_9, h6_10, hops, hnv]
                intro g15
                try with_reducible refine stI ?_
                try simp (maxSteps:=1000000)(dsimp:=false)(disch:=omega) only [go_sem, Φa, hP, h6_39, h6_1, h6_2, h6_7, h6_8, h6_9, h6_10, hops, hnv]
                rw [zerosV_one]
                try with_reducible refine stI ?_
                try simp (maxSteps:=1000000)(dsimp:=false)(disch:=omega) only [go_sem, Φa, hP, h6_39, h6_1, h6_2, h6_7, h6_8, h6_9, h6_10, hops, hnv]
                refine ⟨1, _, _, _, rfl, by simp, .inr (by decide), ?_⟩
                try with_reducible refine stI ?_
                try simp (maxSteps:=1000000)(dsimp:=false)(disch:=omega) only [go_sem, Φa, hP, h6_39, h6_1, h6_2, h6_7, h6_8, h6_9, h6_10, hops, hnv]
                refine hK22 (some ((⟨(k : Int), List.replicate 128 [], false⟩ : Fm), d0 g15), (k : Int), .slice (some ⟨g15, 0, none⟩) 128 128, false) _ (some (bN, .cells [.int .i64 ((k : Int)), (.slice (some ⟨g15, 0, none⟩) 128 128), .bool false].toArray 41 (0, 0)) :: some (bR, .cells [.int .i64 X.1, .int .i64 X.2.1, .bool X.2.2.1, .int .i64 X.2.2.2].toArray 24 (0, 0)) :: so :: (nowR (some ((⟨(k : Int), List.replicate 128 [], false⟩ : Fm), d0 g15)) ++ (segs fs ++ L))) _ (by exact less_begun2) ?_
                try dsimp only
                refine ⟨?_, ?_, ?_, ?_, ?_, ?_, ?_, ?_⟩
                · simp (maxSteps:=1000000)(dsimp:=false)(disch:=omega) only [go_sem, Φa, hP, h6_39, h6_1, h6_2, h6_7, h6_8, h6_9, h6_10]
                  first | done | rfl | skip
                · simp (maxSteps:=1000000)(dsimp:=false)(disch:=omega) only [go_sem, Φa, hP, h6_39, h6_1, h6_2, h6_7, h6_8, h6_9, h6_10]
                · simp (maxSteps:=1000000)(dsimp:=false)(disch:=omega) only [go_sem, Φa, hP, h6_39, h6_1, h6_2, h6_7, h6_8, h6_9, h6_10]
                · simp (maxSteps:=1000000)(dsimp:=false)(disch:=omega) only [go_sem, Φa, hP, h6_39, h6_1, h6_2, h6_7, h6_8, h6_9, h6_10]
                · simp (maxSteps:=1000000)(dsimp:=false)(disch:=omega) only [go_sem, Φa, hP, h6_39, h6_1, h6_2, h6_7, h6_8, h6_9, h6_10]
                · simp (maxSteps:=1000000)(dsimp:=false)(disch:=omega) only [go_sem, Φa, hP, h6_39, h6_1, h6_2, h6_7, h6_8, h6_9, h6_10]
                · rfl
                · refine ⟨fun q hq => ?_, rfl, ?_⟩
                  · cases hq; exact ⟨FdOk.start g15, rfl, rfl⟩
                  · rw [begunN, if_pos hc39]; rfl
              · clear hX25 hY25 X25 Y25
                refine SX.skip ?_
                try simp only [andThen_normal, andThen_ret, andThen_exit, inBlk_normal, inBlk_ret, inBlk_exit, Nat.reduceEqDiff, if_true, if_false, ↓reduceIte]
                refine hK22 (nw, na, nv, nb) _ (some (bN, .cells [.int .i64 na, nv, .bool nb].toArray 41 (0, 0)) :: some (bR, .cells [.int .i64 X.1, .int .i64 X.2.1, .bool X.2.2.1, .int .i64 X.2.2.2].toArray 24 (0, 0)) :: so :: (nowR nw ++ (segs fs ++ L))) _ (by exact Less.refl _) ?_
                try dsimp only
                refine ⟨?_, ?_, ?_, ?_, ?_, ?_, ?_, ?_⟩
                · simp (maxSteps:=1000000)(dsimp:=false)(disch:=omega) only [go_sem, Φa, hP, h6_39, h6_1, h6_2, h6_7, h6_8, h6_9, h6_10]
                  first | done | rfl | skip
                · simp (maxSteps:=1000000)(dsimp:=false)(disch:=omega) only [go_sem, Φa, hP, h6_39, h6_1, h6_2, h6_7, h6_8, h6_9, h6_10]
                · simp (maxSteps:=1000000)(dsimp:=false)(disch:=omega) only [go_sem, Φa, hP, h6_39, h6_1, h6_2, h6_7, h6_8, h6_9, h6_10]
                · simp (maxSteps:=1000000)(dsimp:=false)(disch:=omega) only [go_sem, Φa, hP, h6_39, h6_1, h6_2, h6_7, h6_8, h6_9, h6_10]
                · simp (maxSteps:=1000000)(dsimp:=false)(disch:=omega) only [go_sem, Φa, hP, h6_39, h6_1, h6_2, h6_7, h6_8, h6_9, h6_10]
                · simp (maxSteps:=1000000)(dsimp:=false)(disch:=omega) only [go_sem, Φa, hP, h6_39, h6_1, h6_2, h6_7, h6_8, h6_9, h6_10]
                · rfl
                · exact ⟨hnw, hnv, by rw [begunN, if_neg (by rw [hc39]; exact Bool.false_ne_true)]⟩
          · intro ss T7 L7 hI
            obtain ⟨nw1, na1, nv1, nb1⟩ := ss
            try dsimp only at hI 
            simp only [h4_1, h4_2, h4_7, h4_9, h4_10] at hI 
            obtain ⟨h7_8, h7_1, h7_2, h7_7, h7_9, h7_10, hL7, ⟨hnk1, hnv1, hns1⟩⟩ := hI
            replace hL7 := hL7.symm
            subst hL7
            clear h4_1 h4_2 h4_7 h4_8 h4_9 h4_10 T4
            refine SX.seq_k fun K27 hK27 => ?_
            refine SX.drawn_d [(0, .q), (1, .q), (2, .q), (3, .q), (4, .q), (5, .q), (6, .q), (7, .q), (8, .q), (9, .q), (10, .q), (11, .q), (12, .q), (13, .q), (14, .q), (15, .q), (16, .q), (17, .q), (18, .q), (19, .q), (20, .q), (21, .e), (22, .t)] (fun L => L) (hP ▸ T.mixed) (by kernel_rfl) (by exact Less.refl _) [some 43, some 44, some 45, some 46, some 47, some 48, some 49, some 50, some 51, some 52, some 53, some 54, some 55, some 56, some 57, some 58, some 59, some 60, some 61, some 62, some 63, some 11, none] rfl (fun ops hops hopl => ?_)
            unfold Dsts at hops
            simp (maxSteps:=1000000)(dsimp:=false)(disch:=omega) only [go_sem, Φa, hP, h7_8, h7_1, h7_2, h7_7, h7_9, h7_10, hops, hopl, ia_at e1]
            refine ⟨_, Cell.cons _ (Cell.cons _ (Cell.cons _ (Cell.app _ (Cell.app _ (hck 0 _ rfl))))), ?_⟩
            try with_reducible refine stI ?_
            try simp (maxSteps:=1000000)(dsimp:=false)(disch:=omega) only [go_sem, Φa, hP, h7_8, h7_1, h7_2, h7_7, h7_9, h7_10, hops, hopl, ia_at e1]
            refine ⟨_, Cell.cons _ (Cell.cons _ (Cell.cons _ (Cell.app _ (Cell.app _ (hck 3 _ rfl))))), ?_⟩
            try with_reducible refine stI ?_
            try simp (maxSteps:=1000000)(dsimp:=false)(disch:=omega) only [go_sem, Φa, hP, h7_8, h7_1, h7_2, h7_7, h7_9, h7_10, hops, hopl, ia_at e1]
            refine ⟨_, Cell.cons _ (Cell.cons _ (Cell.cons _ (Cell.app _ (Cell.app _ (hck 4 _ rfl))))), ?_⟩
            try with_reducible refine stI ?_
            try simp (maxSteps:=1000000)(dsimp:=false)(disch:=omega) only [go_sem, Φa, hP, h7_8, h7_1, h7_2, h7_7, h7_9, h7_10, hops, hopl, ia_at e1]
            refine ⟨_, Cell.cons _ (Cell.cons _ (Cell.cons _ (Cell.app _ (Cell.app _ (hck 5 _ rfl))))), ?_⟩
            try with_reducible refine stI ?_
            try simp (maxSteps:=1000000)(dsimp:=false)(disch:=omega) only [go_sem, Φa, hP, h7_8, h7_1, h7_2, h7_7, h7_9, h7_10, hops, hopl, ia_at e1]
            intro g16
            try with_reducible refine stI ?_
            try simp (maxSteps:=1000000)(dsimp:=false)(disch:=omega) only [go_sem, Φa, hP, h7_8, h7_1, h7_2, h7_7, h7_9, h7_10, hops, hopl, ia_at e1]
            refine ⟨0, _, _, _, rfl, (by simp), .inr (by decide), ?_⟩
            try with_reducible refine stI ?_
            try simp (maxSteps:=1000000)(dsimp:=false)(disch:=omega) only [go_sem, Φa, hP, h7_8, h7_1, h7_2, h7_7, h7_9, h7_10, hops, hopl, ia_at e1]
            refine hK27 _ _ ?_
            try clear hK27 K27
            refine SX.live [1, 2, 7, 8, 9, 10, 11] (fun T8 hT8 => ?_)
            simp only [forall_mem_cons', forall_mem_nil', go_sem, Φa, hP, h7_8, h7_1, h7_2, h7_7, h7_9, h7_10] at hT8
            obtain ⟨h8_1, h8_2, h8_7, h8_8, h8_9, h8_10, h8_11⟩ := hT8
            clear h7_8 h7_1 h7_2 h7_7 h7_9 h7_10 T7
            refine SX.seq_k fun K28 hK28 => ?_
            refine SX.region_d [some 64, some 65, some 66, some 12] rfl (fun ops hops => ?_)
            unfold Dsts at hops
            simp (maxSteps:=1000000)(dsimp:=false)(disch:=omega) only [go_sem, Φa, hP, h8_1, h8_2, h8_7, h8_8, h8_9, h8_10, h8_11, hops]
            refine ⟨_, Cell.at 2 rfl rfl, _, Cell.at 2 rfl rfl, _, Cell.at 2 rfl rfl, _, Cell.at 2 rfl rfl, ?_⟩
            try with_reducible refine stI ?_
            try simp (maxSteps:=1000000)(dsimp:=false)(disch:=omega) only [go_sem, Φa, hP, h8_1, h8_2, h8_7, h8_8, h8_9, h8_10, h8_11, hops]
            refine ⟨_, Cell.at 0 rfl rfl, _, Cell.at 0 rfl rfl, _, Cell.at 0 rfl rfl, _, Cell.at 0 rfl rfl, _, Cell.at 0 rfl rfl, _, Cell.at 0 rfl rfl, _, Cell.at 0 rfl rfl, _, Cell.at 0 rfl rfl, ?_⟩
            try with_reducible refine stI ?_
            try simp (maxSteps:=1000000)(dsimp:=false)(disch:=omega) only [go_sem, Φa, hP, h8_1, h8_2, h8_7, h8_8, h8_9, h8_10, h8_11, hops]
            refine SCall.mono (refTakesR_spec hP) ?_
            rintro v_ L_ ⟨hv_, hL_⟩
            rw [hv_, hL_]
            clear hv_ hL_ v_ L_
            try with_reducible refine stI ?_
            try simp (maxSteps:=1000000)(dsimp:=false)(disch:=omega) only [go_sem, Φa, hP, h8_1, h8_2, h8_7, h8_8, h8_9, h8_10, h8_11, hops]
            rcases nw1 with _ | ⟨⟨fa, fr, fsh⟩, d⟩
            · skip
              try with_reducible refine stI ?_
              simp only [nowR, List.nil_append] at *
              try with_reducible refine stI ?_
              try simp (maxSteps:=1000000)(dsimp:=false)(disch:=omega) only [go_sem, Φa, hP, h8_1, h8_2, h8_7, h8_8, h8_9, h8_10, h8_11, hops]
              refine hK28 _ _ ?_
              try clear hK28 K28
              refine SX.live [1, 2, 7, 8, 9, 10, 11, 12] (fun T9 hT9 => ?_)
              simp only [forall_mem_cons', forall_mem_nil', go_sem, Φa, hP, h8_1, h8_2, h8_7, h8_8, h8_9, h8_10, h8_11] at hT9
              obtain ⟨h9_1, h9_2, h9_7, h9_8, h9_9, h9_10, h9_11, h9_12⟩ := hT9
              clear h8_1 h8_2 h8_7 h8_8 h8_9 h8_10 h8_11 T8
              refine SX.join (fun (ss : Unit) T L' => T 1 = T9 1 ∧ T 2 = T9 2 ∧ T 7 = T9 7 ∧ T 8 = T9 8 ∧ T 9 = T9 9 ∧ T 10 = T9 10 ∧ T 11 = T9 11 ∧ L' = some (g16, .cells [.int .u8 r.code, .int .u16 0, .bool r.rd, .bool r.wr, .bool false, .int .u8 0, .int .u8 r.port, .bool false].toArray 49 (0, 0)) :: some (bN, .cells [.int .i64 na1, nv1, .bool nb1].toArray 41 (0, 0)) :: some (bR, .cells [.int .i64 X.1, .int .i64 X.2.1, .bool X.2.2.1, .int .i64 X.2.2.2].toArray 24 (0, 0)) :: so :: (segs fs ++ L) ∧ (True)) (fun K29 hK29 => ?_) ?_
              · simp only [h9_1, h9_2, h9_7, h9_8, h9_9, h9_10, h9_11] at hK29
                refine SX.seq_k fun K30 hK30 => ?_
                refine SX.region_xd [some 67, some 68, some 69, some 70] rfl (fun ops hops => ?_)
                unfold Dsts at hops
                refine RX.live [1, 2, 7, 8, 9, 10, 11, 12] (fun T10 hT10 => ?_)
                simp only [forall_mem_cons', forall_mem_nil', go_sem, Φa, hP, h9_1, h9_2, h9_7, h9_8, h9_9, h9_10, h9_11, h9_12] at hT10
                obtain ⟨h10_1, h10_2, h10_7, h10_8, h10_9, h10_10, h10_11, h10_12⟩ := hT10
                clear h9_1 h9_2 h9_7 h9_8 h9_9 h9_10 h9_11 h9_12 T9
                refine RX.join 4 (fun (ss : Unit) T L' => T 70 = .bool (false) ∧ T 1 = T10 1 ∧ T 2 = T10 2 ∧ T 7 = T10 7 ∧ T 8 = T10 8 ∧ T 9 = T10 9 ∧ T 10 = T10 10 ∧ T 11 = T10 11 ∧ L' = some (g16, .cells [.int .u8 r.code, .int .u16 0, .bool r.rd, .bool r.wr, .bool false, .int .u8 0, .int .u8 r.port, .bool false].toArray 49 (0, 0)) :: some (bN, .cells [.int .i64 na1, nv1, .bool nb1].toArray 41 (0, 0)) :: some (bR, .cells [.int .i64 X.1, .int .i64 X.2.1, .bool X.2.2.1, .int .i64 X.2.2.2].toArray 24 (0, 0)) :: so :: (segs fs ++ L) ∧ (True)) (fun K31 hK31 => ?_) ?_
                · simp only [h10_1, h10_2, h10_7, h10_8, h10_9, h10_10, h10_11] at hK31
                  simp (maxSteps:=1000000)(dsimp:=false)(disch:=omega) only [go_sem, Φa, hP, h10_1, h10_2, h10_7, h10_8, h10_9, h10_10, h10_11, h10_12, hops]
                  repeat' (first | refine iteB (fun hg => ?_) (fun hg => ?_) | refine iteI (fun hg => ?_) (fun hg => ?_) | ((first | refine And.intro (by omega) ?_ | refine ⟨_, Cell.at 0 rfl rfl, ?_⟩ | refine ⟨_, Cell.at 1 rfl rfl, ?_⟩ | refine ⟨_, Cell.at 2 rfl rfl, ?_⟩ | refine ⟨_, Cell.at 3 rfl rfl, ?_⟩ | fail); try (with_reducible refine stI ?_); try simp (maxSteps:=1000000)(dsimp:=false)(disch:=omega) only [go_sem, Φa, hP, h10_1, h10_2, h10_7, h10_8, h10_9, h10_10, h10_11, h10_12, hops]) | fail)
                  all_goals
                    refine hK31 () _ (some (g16, .cells [.int .u8 r.code, .int .u16 0, .bool r.rd, .bool r.wr, .bool false, .int .u8 0, .int .u8 r.port, .bool false].toArray 49 (0, 0)) :: some (bN, .cells [.int .i64 na1, nv1, .bool nb1].toArray 41 (0, 0)) :: some (bR, .cells [.int .i64 X.1, .int .i64 X.2.1, .bool X.2.2.1, .int .i64 X.2.2.2].toArray 24 (0, 0)) :: so :: (segs fs ++ L)) _ (by first | exact Less.refl _ | exact Less.drop _ _ | exact Less.drops (Less.drop _ _) | exact Less.drops (Less.drops (Less.drop _ _)) | exact Less.drops (Less.drops (Less.drops (Less.drop _ _))) | exact Less.drops (Less.drops (Less.drops (Less.drops (Less.drop _ _))))) ?_
                    try dsimp only
                    refine ⟨?_, ?_, ?_, ?_, ?_, ?_, ?_, ?_, ?_, ?_⟩
                    · simp (maxSteps:=1000000)(dsimp:=false)(disch:=omega) only [go_sem, Φa, hP, h10_1, h10_2, h10_7, h10_8, h10_9, h10_10, h10_11, h10_12]
                      first | done | rfl | (refine congrArg Value.bool ?_; unfold atZ; simp_all; done) | (refine congrArg Value.bool ?_; simp_all; done)
                    · simp (maxSteps:=1000000)(dsimp:=false)(disch:=omega) only [go_sem, Φa, hP, h10_1, h10_2, h10_7, h10_8, h10_9, h10_10, h10_11, h10_12]
                    · simp (maxSteps:=1000000)(dsimp:=false)(disch:=omega) only [go_sem, Φa, hP, h10_1, h10_2, h10_7, h10_8, h10_9, h10_10, h10_11, h10_12]
                    · simp (maxSteps:=1000000)(dsimp:=false)(disch:=omega) only [go_sem, Φa, hP, h10_1, h10_2, h10_7, h10_8, h10_9, h10_10, h10_11, h10_12]
                    · simp (maxSteps:=1000000)(dsimp:=false)(disch:=omega) only [go_sem, Φa, hP, h10_1, h10_2, h10_7, h10_8, h10_9, h10_10, h10_11, h10_12]
                    · simp (maxSteps:=1000000)(dsimp:=false)(disch:=omega) only [go_sem, Φa, hP, h10_1, h10_2, h10_7, h10_8, h10_9, h10_10, h10_11, h10_12]
                    · simp (maxSteps:=1000000)(dsimp:=false)(disch:=omega) only [go_sem, Φa, hP, h10_1, h10_2, h10_7, h10_8, h10_9, h10_10, h10_11, h10_12]
                    · simp (maxSteps:=1000000)(dsimp:=false)(disch:=omega) only [go_sem, Φa, hP, h10_1, h10_2, h10_7, h10_8, h10_9, h10_10, h10_11, h10_12]
                    · rfl
                    · trivial
                · intro ss T11 L11 hI
                  simp only [h10_1, h10_2, h10_7, h10_8, h10_9, h10_10, h10_11] at hI 
                  obtain ⟨h11_70, h11_1, h11_2, h11_7, h11_8, h11_9, h11_10, h11_11, hL11, hinv⟩ := hI
                  replace hL11 := hL11.symm
                  subst hL11
                  clear h10_1 h10_2 h10_7 h10_8 h10_9 h10_10 h10_11 h10_12 T10
                  refine RX.done ?_
                  simp (maxSteps:=1000000)(dsimp:=false)(disch:=omega) only [go_sem, Φa, hP, h11_70, h11_1, h11_2, h11_7, h11_8, h11_9, h11_10, h11_11, hops]
                  refine hK30 _ _ ?_
                  try clear hK30 K30
                  refine SX.cond_k fun X32 Y32 hX32 hY32 => ?_
                  simp (maxSteps:=1000000)(dsimp:=false)(disch:=omega) only [go_sem, Φa, hP, h11_70, h11_1, h11_2, h11_7, h11_8, h11_9, h11_10, h11_11, condVC]
                  refine hY32 ?_
                  clear hX32 hY32 X32 Y32
                  refine SX.skip ?_
                  try simp only [andThen_normal, andThen_ret, andThen_exit, inBlk_normal, inBlk_ret, inBlk_exit, Nat.reduceEqDiff, if_true, if_false, ↓reduceIte]
                  refine hK29 () _ (some (g16, .cells [.int .u8 r.code, .int .u16 0, .bool r.rd, .bool r.wr, .bool false, .int .u8 0, .int .u8 r.port, .bool false].toArray 49 (0, 0)) :: some (bN, .cells [.int .i64 na1, nv1, .bool nb1].toArray 41 (0, 0)) :: some (bR, .cells [.int .i64 X.1, .int .i64 X.2.1, .bool X.2.2.1, .int .i64 X.2.2.2].toArray 24 (0, 0)) :: so :: (segs fs ++ L)) _ (by first | exact Less.refl _ | exact Less.drop _ _ | exact Less.drops (Less.drop _ _) | exact Less.drops (Less.drops (Less.drop _ _)) | exact Less.drops (Less.drops (Less.drops (Less.drop _ _))) | exact Less.drops (Less.drops (Less.drops (Less.drops (Less.drop _ _))))) ?_
                  try dsimp only
                  refine ⟨?_, ?_, ?_, ?_, ?_, ?_, ?_, ?_, ?_⟩
                  · simp (maxSteps:=1000000)(dsimp:=false)(disch:=omega) only [go_sem, Φa, hP, h11_70, h11_1, h11_2, h11_7, h11_8, h11_9, h11_10, h11_11]
                  · simp (maxSteps:=1000000)(dsimp:=false)(disch:=omega) only [go_sem, Φa, hP, h11_70, h11_1, h11_2, h11_7, h11_8, h11_9, h11_10, h11_11]
                  · simp (maxSteps:=1000000)(dsimp:=false)(disch:=omega) only [go_sem, Φa, hP, h11_70, h11_1, h11_2, h11_7, h11_8, h11_9, h11_10, h11_11]
                  · simp (maxSteps:=1000000)(dsimp:=false)(disch:=omega) only [go_sem, Φa, hP, h11_70, h11_1, h11_2, h11_7, h11_8, h11_9, h11_10, h11_11]
                  · simp (maxSteps:=1000000)(dsimp:=false)(disch:=omega) only [go_sem, Φa, hP, h11_70, h11_1, h11_2, h11_7, h11_8, h11_9, h11_10, h11_11]
                  · simp (maxSteps:=1000000)(dsimp:=false)(disch:=omega) only [go_sem, Φa, hP, h11_70, h11_1, h11_2, h11_7, h11_8, h11_9, h11_10, h11_11]
                  · simp (maxSteps:=1000000)(dsimp:=false)(disch:=omega) only [go_sem, Φa, hP, h11_70, h11_1, h11_2, h11_7, h11_8, h11_9, h11_10, h11_11]
                  · rfl
                  · trivial
              · intro ss T12 L12 hI
                simp only [h9_1, h9_2, h9_7, h9_8, h9_9, h9_10, h9_11] at hI 
                obtain ⟨h12_1, h12_2, h12_7, h12_8, h12_9, h12_10, h12_11, hL12, hinv⟩ := hI
                replace hL12 := hL12.symm
                subst hL12
                clear h9_1 h9_2 h9_7 h9_8 h9_9 h9_10 h9_11 h9_12 T9
                refine SX.seq_k fun K33 hK33 => ?_
                refine SX.drawn_d [(0, .q), (1, .q), (2, .q), (3, .q), (4, .q), (5, .q), (6, .q), (7, .e), (8, .t)] (fun L => L) (hP ▸ T.mixed) (by kernel_rfl) (by exact Less.refl _) [some 90, some 91, some 92, some 93, some 94, some 95, some 96, some 97, none] rfl (fun ops hops hopl => ?_)
                unfold Dsts at hops
                simp (maxSteps:=1000000)(dsimp:=false)(disch:=omega) only [go_sem, Φa, hP, h12_1, h12_2, h12_7, h12_8, h12_9, h12_10, h12_11, hops, hopl, ia_at e1]
                refine ⟨_, Cell.at 2 rfl rfl, _, Cell.at 2 rfl rfl, _, Cell.at 2 rfl rfl, _, Cell.at 2 rfl rfl, ?_⟩
                try with_reducible refine stI ?_
                try simp (maxSteps:=1000000)(dsimp:=false)(disch:=omega) only [go_sem, Φa, hP, h12_1, h12_2, h12_7, h12_8, h12_9, h12_10, h12_11, hops, hopl, ia_at e1]
                refine ⟨_, Cell.at 0 rfl rfl, _, Cell.at 0 rfl rfl, _, Cell.at 0 rfl rfl, _, Cell.at 0 rfl rfl, _, Cell.at 0 rfl rfl, _, Cell.at 0 rfl rfl, _, Cell.at 0 rfl rfl, _, Cell.at 0 rfl rfl, ?_⟩
                try with_reducible refine stI ?_
                try simp (maxSteps:=1000000)(dsimp:=false)(disch:=omega) only [go_sem, Φa, hP, h12_1, h12_2, h12_7, h12_8, h12_9, h12_10, h12_11, hops, hopl, ia_at e1]
                refine ⟨_, Cell.cons _ (Cell.cons _ (Cell.cons _ (Cell.cons _ (Cell.app _ (hck 7 _ rfl))))), ?_⟩
                try with_reducible refine stI ?_
                try simp (maxSteps:=1000000)(dsimp:=false)(disch:=omega) only [go_sem, Φa, hP, h12_1, h12_2, h12_7, h12_8, h12_9, h12_10, h12_11, hops, hopl, ia_at e1]
                refine SCall.mono (refStepR_spec hP) ?_
                rintro v_ L_ ⟨hv_, hL_⟩
                rw [hv_, hL_]
                clear hv_ hL_ v_ L_
                try with_reducible refine stI ?_
                try simp (maxSteps:=1000000)(dsimp:=false)(disch:=omega) only [go_sem, Φa, hP, h12_1, h12_2, h12_7, h12_8, h12_9, h12_10, h12_11, hops, hopl, ia_at e1]
                refine ⟨2, _, _, _, rfl, by simp, .inr (by decide), ?_⟩
                try with_reducible refine stI ?_
                try simp (maxSteps:=1000000)(dsimp:=false)(disch:=omega) only [go_sem, Φa, hP, h12_1, h12_2, h12_7, h12_8, h12_9, h12_10, h12_11, hops, hopl, ia_at e1]
                refine hK33 _ _ ?_
                try clear hK33 K33
                refine SX.seq_k fun K34 hK34 => ?_
                refine SX.region_xd [some 98, some 99, some 100, some 101, some 102, some 103, some 104, some 105, some 106, some 107, some 108] rfl (fun ops hops => ?_)
                unfold Dsts at hops
                refine RX.live [1, 2, 7, 8, 9, 10] (fun T13 hT13 => ?_)
                simp only [forall_mem_cons', forall_mem_nil', go_sem, Φa, hP, h12_1, h12_2, h12_7, h12_8, h12_9, h12_10, h12_11] at hT13
                obtain ⟨h13_1, h13_2, h13_7, h13_8, h13_9, h13_10⟩ := hT13
                clear h12_1 h12_2 h12_7 h12_8 h12_9 h12_10 h12_11 T12
                refine RX.join 6 (fun (ss : Unit) T L' => T 103 = .bool (false) ∧ T 1 = T13 1 ∧ T 2 = T13 2 ∧ T 7 = T13 7 ∧ T 8 = T13 8 ∧ T 9 = T13 9 ∧ T 10 = T13 10 ∧ L' = some (g16, .cells [.int .u8 r.code, .int .u16 0, .bool r.rd, .bool r.wr, .bool false, .int .u8 0, .int .u8 r.port, .bool false].toArray 49 (0, 0)) :: some (bN, .cells [.int .i64 na1, nv1, .bool nb1].toArray 41 (0, 0)) :: some (bR, .cells [.int .i64 (rasN X r).1, .int .i64 (rasN X r).2.1, .bool (rasN X r).2.2.1, .int .i64 (rasN X r).2.2.2].toArray 24 (0, 0)) :: so :: (segs fs ++ L) ∧ (True)) (fun K35 hK35 => ?_) ?_
                · simp only [h13_1, h13_2, h13_7, h13_8, h13_9, h13_10] at hK35
                  simp (maxSteps:=1000000)(dsimp:=false)(disch:=omega) only [go_sem, Φa, hP, h13_1, h13_2, h13_7, h13_8, h13_9, h13_10, hops]
                  repeat' (first | refine iteB (fun hg => ?_) (fun hg => ?_) | refine iteI (fun hg => ?_) (fun hg => ?_) | ((first | refine And.intro (by omega) ?_ | refine ⟨_, Cell.at 0 rfl rfl, ?_⟩ | refine ⟨_, Cell.at 1 rfl rfl, ?_⟩ | refine ⟨_, Cell.at 2 rfl rfl, ?_⟩ | refine ⟨_, Cell.at 3 rfl rfl, ?_⟩ | fail); try (with_reducible refine stI ?_); try simp (maxSteps:=1000000)(dsimp:=false)(disch:=omega) only [go_sem, Φa, hP, h13_1, h13_2, h13_7, h13_8, h13_9, h13_10, hops]) | fail)
                  all_goals
                    refine hK35 () _ (some (g16, .cells [.int .u8 r.code, .int .u16 0, .bool r.rd, .bool r.wr, .bool false, .int .u8 0, .int .u8 r.port, .bool false].toArray 49 (0, 0)) :: some (bN, .cells [.int .i64 na1, nv1, .bool nb1].toArray 41 (0, 0)) :: some (bR, .cells [.int .i64 (rasN X r).1, .int .i64 (rasN X r).2.1, .bool (rasN X r).2.2.1, .int .i64 (rasN X r).2.2.2].toArray 24 (0, 0)) :: so :: (segs fs ++ L)) _ (by first | exact Less.refl _ | exact Less.drop _ _ | exact Less.drops (Less.drop _ _) | exact Less.drops (Less.drops (Less.drop _ _)) | exact Less.drops (Less.drops (Less.drops (Less.drop _ _))) | exact Less.drops (Less.drops (Less.drops (Less.drops (Less.drop _ _))))) ?_
                    try dsimp only
                    refine ⟨?_, ?_, ?_, ?_, ?_, ?_, ?_, ?_, ?_⟩
                    · simp (maxSteps:=1000000)(dsimp:=false)(disch:=omega) only [go_sem, Φa, hP, h13_1, h13_2, h13_7, h13_8, h13_9, h13_10]
                      first | done | rfl | (refine congrArg Value.bool ?_; unfold atZ; simp_all; done) | (refine congrArg Value.bool ?_; simp_all; done)
                    · simp (maxSteps:=1000000)(dsimp:=false)(disch:=omega) only [go_sem, Φa, hP, h13_1, h13_2, h13_7, h13_8, h13_9, h13_10]
                    · simp (maxSteps:=1000000)(dsimp:=false)(disch:=omega) only [go_sem, Φa, hP, h13_1, h13_2, h13_7, h13_8, h13_9, h13_10]
                    · simp (maxSteps:=1000000)(dsimp:=false)(disch:=omega) only [go_sem, Φa, hP, h13_1, h13_2, h13_7, h13_8, h13_9, h13_10]
                    · simp (maxSteps:=1000000)(dsimp:=false)(disch:=omega) only [go_sem, Φa, hP, h13_1, h13_2, h13_7, h13_8, h13_9, h13_10]
                    · simp (maxSteps:=1000000)(dsimp:=false)(disch:=omega) only [go_sem, Φa, hP, h13_1, h13_2, h13_7, h13_8, h13_9, h13_10]
                    · simp (maxSteps:=1000000)(dsimp:=false)(disch:=omega) only [go_sem, Φa, hP, h13_1, h13_2, h13_7, h13_8, h13_9, h13_10]
                    · rfl
                    · trivial
                · intro ss T14 L14 hI
                  simp only [h13_1, h13_2, h13_7, h13_8, h13_9, h13_10] at hI 
                  obtain ⟨h14_103, h14_1, h14_2, h14_7, h14_8, h14_9, h14_10, hL14, hinv⟩ := hI
                  replace hL14 := hL14.symm
                  subst hL14
                  clear h13_1 h13_2 h13_7 h13_8 h13_9 h13_10 T13
                  refine RX.live [1, 2, 7, 8, 9, 10, 103] (fun T15 hT15 => ?_)
                  simp only [forall_mem_cons', forall_mem_nil', go_sem, Φa, hP, h14_103, h14_1, h14_2, h14_7, h14_8, h14_9, h14_10] at hT15
                  obtain ⟨h15_1, h15_2, h15_7, h15_8, h15_9, h15_10, h15_103⟩ := hT15
                  clear h14_103 h14_1 h14_2 h14_7 h14_8 h14_9 h14_10 T14
                  refine RX.join 5 (fun (ss : Unit) T L' => T 108 = .bool (false) ∧ T 1 = T15 1 ∧ T 2 = T15 2 ∧ T 7 = T15 7 ∧ T 8 = T15 8 ∧ T 9 = T15 9 ∧ T 10 = T15 10 ∧ L' = some (g16, .cells [.int .u8 r.code, .int .u16 0, .bool r.rd, .bool r.wr, .bool false, .int .u8 0, .int .u8 r.port, .bool false].toArray 49 (0, 0)) :: some (bN, .cells [.int .i64 na1, nv1, .bool nb1].toArray 41 (0, 0)) :: some (bR, .cells [.int .i64 (rasN X r).1, .int .i64 (rasN X r).2.1, .bool (rasN X r).2.2.1, .int .i64 (rasN X r).2.2.2].toArray 24 (0, 0)) :: so :: (segs fs ++ L) ∧ (True)) (fun K36 hK36 => ?_) ?_
                  · simp only [h15_1, h15_2, h15_7, h15_8, h15_9, h15_10] at hK36
                    simp (maxSteps:=1000000)(dsimp:=false)(disch:=omega) only [go_sem, Φa, hP, h15_1, h15_2, h15_7, h15_8, h15_9, h15_10, h15_103, hops]
                    repeat' (first | refine iteB (fun hg => ?_) (fun hg => ?_) | refine iteI (fun hg => ?_) (fun hg => ?_) | ((first | refine And.intro (by omega) ?_ | refine ⟨_, Cell.at 0 rfl rfl, ?_⟩ | refine ⟨_, Cell.at 1 rfl rfl, ?_⟩ | refine ⟨_, Cell.at 2 rfl rfl, ?_⟩ | refine ⟨_, Cell.at 3 rfl rfl, ?_⟩ | fail); try (with_reducible refine stI ?_); try simp (maxSteps:=1000000)(dsimp:=false)(disch:=omega) only [go_sem, Φa, hP, h15_1, h15_2, h15_7, h15_8, h15_9, h15_10, h15_103, hops]) | fail)
                    all_goals
                      refine hK36 () _ (some (g16, .cells [.int .u8 r.code, .int .u16 0, .bool r.rd, .bool r.wr, .bool false, .int .u8 0, .int .u8 r.port, .bool false].toArray 49 (0, 0)) :: some (bN, .cells [.int .i64 na1, nv1, .bool nb1].toArray 41 (0, 0)) :: some (bR, .cells [.int .i64 (rasN X r).1, .int .i64 (rasN X r).2.1, .bool (rasN X r).2.2.1, .int .i64 (rasN X r).2.2.2].toArray 24 (0, 0)) :: so :: (segs fs ++ L)) _ (by first | exact Less.refl _ | exact Less.drop _ _ | exact Less.drops (Less.drop _ _) | exact Less.drops (Less.drops (Less.drop _ _)) | exact Less.drops (Less.drops (Less.drops (Less.drop _ _))) | exact Less.drops (Less.drops (Less.drops (Less.drops (Less.drop _ _))))) ?_
                      try dsimp only
                      refine ⟨?_, ?_, ?_, ?_, ?_, ?_, ?_, ?_, ?_⟩
                      · simp (maxSteps:=1000000)(dsimp:=false)(disch:=omega) only [go_sem, Φa, hP, h15_1, h15_2, h15_7, h15_8, h15_9, h15_10, h15_103]
                        first | done | rfl | (refine congrArg Value.bool ?_; unfold atZ; simp_all; done) | (refine congrArg Value.bool ?_; simp_all; done)
                      · simp (maxSteps:=1000000)(dsimp:=false)(disch:=omega) only [go_sem, Φa, hP, h15_1, h15_2, h15_7, h15_8, h15_9, h15_10, h15_103]
                      · simp (maxSteps:=1000000)(dsimp:=false)(disch:=omega) only [go_sem, Φa, hP, h15_1, h15_2, h15_7, h15_8, h15_9, h15_10, h15_103]
                      · simp (maxSteps:=1000000)(dsimp:=false)(disch:=omega) only [go_sem, Φa, hP, h15_1, h15_2, h15_7, h15_8, h15_9, h15_10, h15_103]
                      · simp (maxSteps:=1000000)(dsimp:=false)(disch:=omega) only [go_sem, Φa, hP, h15_1, h15_2, h15_7, h15_8, h15_9, h15_10, h15_103]
                      · simp (maxSteps:=1000000)(dsimp:=false)(disch:=omega) only [go_sem, Φa, hP, h15_1, h15_2, h15_7, h15_8, h15_9, h15_10, h15_103]
                      · simp (maxSteps:=1000000)(dsimp:=false)(disch:=omega) only [go_sem, Φa, hP, h15_1, h15_2, h15_7, h15_8, h15_9, h15_10, h15_103]
                      · rfl
                      · trivial
                  · intro ss T16 L16 hI
                    simp only [h15_1, h15_2, h15_7, h15_8, h15_9, h15_10] at hI 
                    obtain ⟨h16_108, h16_1, h16_2, h16_7, h16_8, h16_9, h16_10, hL16, hinv⟩ := hI
                    replace hL16 := hL16.symm
                    subst hL16
                    clear h15_1 h15_2 h15_7 h15_8 h15_9 h15_10 h15_103 T15
                    refine RX.done ?_
                    simp (maxSteps:=1000000)(dsimp:=false)(disch:=omega) only [go_sem, Φa, hP, h16_108, h16_1, h16_2, h16_7, h16_8, h16_9, h16_10, hops]
                    refine hK34 _ _ ?_
                    try clear hK34 K34
                    refine SX.cond_k fun X37 Y37 hX37 hY37 => ?_
                    simp (maxSteps:=1000000)(dsimp:=false)(disch:=omega) only [go_sem, Φa, hP, h16_108, h16_1, h16_2, h16_7, h16_8, h16_9, h16_10, condVC]
                    refine hY37 ?_
                    clear hX37 hY37 X37 Y37
                    refine SX.skip ?_
                    try simp only [andThen_normal, andThen_ret, andThen_exit, inBlk_normal, inBlk_ret, inBlk_exit, Nat.reduceEqDiff, if_true, if_false, ↓reduceIte]
                    refine hK21 _ _ ?_
                    try clear hK21 K21
                    refine SX.region_d [some 30, some 31, some 10] rfl (fun ops hops => ?_)
                    unfold Dsts at hops
                    simp (maxSteps:=1000000)(dsimp:=false)(disch:=omega) only [go_sem, Φa, hP, h16_108, h16_1, h16_2, h16_7, h16_8, h16_9, h16_10, hops]
                    repeat' ((first | refine And.intro (by omega) ?_ | fail); try (with_reducible refine stI ?_); try simp (maxSteps:=1000000)(dsimp:=false)(disch:=omega) only [go_sem, Φa, hP, h16_108, h16_1, h16_2, h16_7, h16_8, h16_9, h16_10, hops])
                    refine hK17 (k + 1, rasN X r, none, na1, nv1, nb1, vo, so, fs) _ (some (bN, .cells [.int .i64 na1, nv1, .bool nb1].toArray 41 (0, 0)) :: some (bR, .cells [.int .i64 (rasN X r).1, .int .i64 (rasN X r).2.1, .bool (rasN X r).2.2.1, .int .i64 (rasN X r).2.2.2].toArray 24 (0, 0)) :: so :: (nowR none ++ (segs fs ++ L))) _ (by exact Less.drop _ _) ?_ ?_
                    · try dsimp only
                      refine ⟨?_, ?_, ?_, ?_, ?_, ?_, ?_, ?_⟩
                      · simp (maxSteps:=1000000)(dsimp:=false)(disch:=omega) only [go_sem, Φa, hP, h16_108, h16_1, h16_2, h16_7, h16_8, h16_9, h16_10]
                        first | done | rfl | skip
                      · simp (maxSteps:=1000000)(dsimp:=false)(disch:=omega) only [go_sem, Φa, hP, h16_108, h16_1, h16_2, h16_7, h16_8, h16_9, h16_10]
                        first | done | rfl | skip
                      · simp (maxSteps:=1000000)(dsimp:=false)(disch:=omega) only [go_sem, Φa, hP, h16_108, h16_1, h16_2, h16_7, h16_8, h16_9, h16_10]
                        first | done | rfl | skip
                      · simp (maxSteps:=1000000)(dsimp:=false)(disch:=omega) only [go_sem, Φa, hP, h16_108, h16_1, h16_2, h16_7, h16_8, h16_9, h16_10]
                      · simp (maxSteps:=1000000)(dsimp:=false)(disch:=omega) only [go_sem, Φa, hP, h16_108, h16_1, h16_2, h16_7, h16_8, h16_9, h16_10]
                      · simp (maxSteps:=1000000)(dsimp:=false)(disch:=omega) only [go_sem, Φa, hP, h16_108, h16_1, h16_2, h16_7, h16_8, h16_9, h16_10]
                      · rfl
                      · refine ⟨by omega, hrow, hfs, fun q hq => (by cases hq), hnv1, ?_⟩
                        rw [hstep, stF_none hns1.symm]
                        rfl
                    · (try dsimp only); omega
            · skip
              try with_reducible refine stI ?_
              obtain ⟨hd, hna, hnv2⟩ := hnk1 _ rfl
              dsimp only at hd hna hnv2
              subst hna hnv2
              have hcb := begunN_cnt hcn hns1.symm
              dsimp only at hcb
              try with_reducible refine stI ?_
              try simp (maxSteps:=1000000)(dsimp:=false)(disch:=omega) only [go_sem, Φa, hP, h8_1, h8_2, h8_7, h8_8, h8_9, h8_10, h8_11, hops]
              refine hK28 _ _ ?_
              try clear hK28 K28
              refine SX.live [1, 2, 7, 8, 9, 10, 11, 12] (fun T17 hT17 => ?_)
              simp only [forall_mem_cons', forall_mem_nil', go_sem, Φa, hP, h8_1, h8_2, h8_7, h8_8, h8_9, h8_10, h8_11] at hT17
              obtain ⟨h17_1, h17_2, h17_7, h17_8, h17_9, h17_10, h17_11, h17_12⟩ := hT17
              clear h8_1 h8_2 h8_7 h8_8 h8_9 h8_10 h8_11 T8
              refine SX.join (fun (ss : (Fd)) T L' => (fun (d1 : Fd) => T 1 = T17 1 ∧ T 2 = T17 2 ∧ T 7 = T17 7 ∧ T 8 = T17 8 ∧ T 9 = T17 9 ∧ T 10 = T17 10 ∧ T 11 = T17 11 ∧ L' = some (g16, .cells [.int .u8 r.code, .int .u16 0, .bool r.rd, .bool r.wr, .bool false, .int .u8 0, .int .u8 r.port, .bool false].toArray 49 (0, 0)) :: some (bN, .cells [.int .i64 na1, (.slice (some ⟨d1.g, 0, none⟩) 128 128), .bool nb1].toArray 41 (0, 0)) :: some (bR, .cells [.int .i64 X.1, .int .i64 X.2.1, .bool X.2.2.1, .int .i64 X.2.2.2].toArray 24 (0, 0)) :: so :: (d1.seg ++ (segs fs ++ L)) ∧ (FdOk (tookN X r fr) d1)) (ss)) (fun K38 hK38 => ?_) ?_
              · simp only [h17_1, h17_2, h17_7, h17_8, h17_9, h17_10, h17_11] at hK38
                refine SX.seq_k fun K39 hK39 => ?_
                refine SX.region_xd [some 67, some 68, some 69, some 70] rfl (fun ops hops => ?_)
                unfold Dsts at hops
                refine RX.live [1, 2, 7, 8, 9, 10, 11, 12] (fun T18 hT18 => ?_)
                simp only [forall_mem_cons', forall_mem_nil', go_sem, Φa, hP, h17_1, h17_2, h17_7, h17_8, h17_9, h17_10, h17_11, h17_12] at hT18
                obtain ⟨h18_1, h18_2, h18_7, h18_8, h18_9, h18_10, h18_11, h18_12⟩ := hT18
                clear h17_1 h17_2 h17_7 h17_8 h17_9 h17_10 h17_11 h17_12 T17
                refine RX.join 4 (fun (ss : Unit) T L' => T 70 = .bool (takesN X r) ∧ T 1 = T18 1 ∧ T 2 = T18 2 ∧ T 7 = T18 7 ∧ T 8 = T18 8 ∧ T 9 = T18 9 ∧ T 10 = T18 10 ∧ T 11 = T18 11 ∧ L' = some (g16, .cells [.int .u8 r.code, .int .u16 0, .bool r.rd, .bool r.wr, .bool false, .int .u8 0, .int .u8 r.port, .bool false].toArray 49 (0, 0)) :: some (bN, .cells [.int .i64 na1, (.slice (some ⟨d.g, 0, none⟩) 128 128), .bool nb1].toArray 41 (0, 0)) :: some (bR, .cells [.int .i64 X.1, .int .i64 X.2.1, .bool X.2.2.1, .int .i64 X.2.2.2].toArray 24 (0, 0)) :: so :: (d.seg ++ (segs fs ++ L)) ∧ (True)) (fun K40 hK40 => ?_) ?_
                · simp only [h18_1, h18_2, h18_7, h18_8, h18_9, h18_10, h18_11] at hK40
                  simp (maxSteps:=1000000)(dsimp:=false)(disch:=omega) only [go_sem, Φa, hP, h18_1, h18_2, h18_7, h18_8, h18_9, h18_10, h18_11, h18_12, hops]
                  repeat' (first | refine iteB (fun hg => ?_) (fun hg => ?_) | refine iteI (fun hg => ?_) (fun hg => ?_) | ((first | refine And.intro (by omega) ?_ | refine ⟨_, Cell.at 0 rfl rfl, ?_⟩ | refine ⟨_, Cell.at 1 rfl rfl, ?_⟩ | refine ⟨_, Cell.at 2 rfl rfl, ?_⟩ | refine ⟨_, Cell.at 3 rfl rfl, ?_⟩ | fail); try (with_reducible refine stI ?_); try simp (maxSteps:=1000000)(dsimp:=false)(disch:=omega) only [go_sem, Φa, hP, h18_1, h18_2, h18_7, h18_8, h18_9, h18_10, h18_11, h18_12, hops]) | fail)
                  all_goals
                    refine hK40 () _ (some (g16, .cells [.int .u8 r.code, .int .u16 0, .bool r.rd, .bool r.wr, .bool false, .int .u8 0, .int .u8 r.port, .bool false].toArray 49 (0, 0)) :: some (bN, .cells [.int .i64 na1, (.slice (some ⟨d.g, 0, none⟩) 128 128), .bool nb1].toArray 41 (0, 0)) :: some (bR, .cells [.int .i64 X.1, .int .i64 X.2.1, .bool X.2.2.1, .int .i64 X.2.2.2].toArray 24 (0, 0)) :: so :: (d.seg ++ (segs fs ++ L))) _ (by first | exact Less.refl _ | exact Less.drop _ _ | exact Less.drops (Less.drop _ _) | exact Less.drops (Less.drops (Less.drop _ _)) | exact Less.drops (Less.drops (Less.drops (Less.drop _ _))) | exact Less.drops (Less.drops (Less.drops (Less.drops (Less.drop _ _))))) ?_
                    try dsimp only
                    refine ⟨?_, ?_, ?_, ?_, ?_, ?_, ?_, ?_, ?_, ?_⟩
                    · simp (maxSteps:=1000000)(dsimp:=false)(disch:=omega) only [go_sem, Φa, hP, h18_1, h18_2, h18_7, h18_8, h18_9, h18_10, h18_11, h18_12]
                      first | done | rfl | (refine congrArg Value.bool ?_; unfold atZ; simp_all; done) | (refine congrArg Value.bool ?_; simp_all; done)
                    · simp (maxSteps:=1000000)(dsimp:=false)(disch:=omega) only [go_sem, Φa, hP, h18_1, h18_2, h18_7, h18_8, h18_9, h18_10, h18_11, h18_12]
                    · simp (maxSteps:=1000000)(dsimp:=false)(disch:=omega) only [go_sem, Φa, hP, h18_1, h18_2, h18_7, h18_8, h18_9, h18_10, h18_11, h18_12]
                    · simp (maxSteps:=1000000)(dsimp:=false)(disch:=omega) only [go_sem, Φa, hP, h18_1, h18_2, h18_7, h18_8, h18_9, h18_10, h18_11, h18_12]
                    · simp (maxSteps:=1000000)(dsimp:=false)(disch:=omega) only [go_sem, Φa, hP, h18_1, h18_2, h18_7, h18_8, h18_9, h18_10, h18_11, h18_12]
                    · simp (maxSteps:=1000000)(dsimp:=false)(disch:=omega) only [go_sem, Φa, hP, h18_1, h18_2, h18_7, h18_8, h18_9, h18_10, h18_11, h18_12]
                    · simp (maxSteps:=1000000)(dsimp:=false)(disch:=omega) only [go_sem, Φa, hP, h18_1, h18_2, h18_7, h18_8, h18_9, h18_10, h18_11, h18_12]
                    · simp (maxSteps:=1000000)(dsimp:=false)(disch:=omega) only [go_sem, Φa, hP, h18_1, h18_2, h18_7, h18_8, h18_9, h18_10, h18_11, h18_12]
                    · rfl
                    · trivial
                · intro ss T19 L19 hI
                  simp only [h18_1, h18_2, h18_7, h18_8, h18_9, h18_10, h18_11] at hI 
                  obtain ⟨h19_70, h19_1, h19_2, h19_7, h19_8, h19_9, h19_10, h19_11, hL19, hinv⟩ := hI
                  replace hL19 := hL19.symm
                  subst hL19
                  clear h18_1 h18_2 h18_7 h18_8 h18_9 h18_10 h18_11 h18_12 T18
                  refine RX.done ?_
                  simp (maxSteps:=1000000)(dsimp:=false)(disch:=omega) only [go_sem, Φa, hP, h19_70, h19_1, h19_2, h19_7, h19_8, h19_9, h19_10, h19_11, hops]
                  refine hK39 _ _ ?_
                  try clear hK39 K39
                  refine SX.cond_k fun X41 Y41 hX41 hY41 => ?_
                  simp (maxSteps:=1000000)(dsimp:=false)(disch:=omega) only [go_sem, Φa, hP, h19_70, h19_1, h19_2, h19_7, h19_8, h19_9, h19_10, h19_11, condVC]
                  refine ⟨fun hc70 => hX41 ?_, fun hc70 => hY41 ?_⟩
                  · clear hX41 hY41 X41 Y41
                    refine SX.seq_k fun K42 hK42 => ?_
                    refine SX.region_d [some 71, some 72, some 73, some 13] rfl (fun ops hops => ?_)
                    unfold Dsts at hops
                    simp (maxSteps:=1000000)(dsimp:=false)(disch:=omega) only [go_sem, Φa, hP, h19_70, h19_1, h19_2, h19_7, h19_8, h19_9, h19_10, h19_11, hops]
                    refine ⟨_, Cell.at 2 rfl rfl, ?_⟩
                    try with_reducible refine stI ?_
                    try simp (maxSteps:=1000000)(dsimp:=false)(disch:=omega) only [go_sem, Φa, hP, h19_70, h19_1, h19_2, h19_7, h19_8, h19_9, h19_10, h19_11, hops]
                    refine hK42 _ _ ?_
                    try clear hK42 K42
                    have hlt := takesN_line hc70
                    have hlj : lineN X < d.ss.length := by have := hd.ns; omega
                    have hv := getD_get (d := undef) (by have := hd.nv; omega : lineN X < d.vals.length)
                    have hrw := hd.row (lineN X) hlt.1
                    have hln : (X.1 - 80).toNat = lineN X := rfl
                    have hca := cnt_at (by have := hd.n; omega : lineN X < fr.length)
                    refine SX.drawn_d [(0, .q), (1, .q), (2, .q), (3, .q), (4, .q), (5, .q), (6, .q), (7, .q), (8, .q), (9, .q), (10, .q), (11, .q), (12, .q), (13, .e), (14, .e), (15, .q), (16, .t)] (fun _ => some (bN, .cells [.int .i64 na1, (.slice (some ⟨d.g, 0, none⟩) 128 128), .bool nb1].toArray 41 (0, 0)) :: some (d.g, .cells d.vals.toArray 50 (0, 0)) :: (segs fs ++ L)) (hP ▸ T.mixed) (by kernel_rfl) (by exact lessG20) [some 74, some 75, some 76, some 77, some 78, some 79, some 80, some 81, some 82, some 83, some 84, some 85, some 86, some 87, some 88, some 89, none] rfl (fun ops hops hopl => ?_)
                    unfold Dsts at hops
                    simp (maxSteps:=1000000)(dsimp:=false)(disch:=omega) only [go_sem, Φa, hP, h19_70, h19_1, h19_2, h19_7, h19_8, h19_9, h19_10, h19_11, hops, hopl, hln, ia_at e1]
                    refine ⟨_, Cell.at 0 rfl rfl, ?_⟩
                    try with_reducible refine stI ?_
                    try simp (maxSteps:=1000000)(dsimp:=false)(disch:=omega) only [go_sem, Φa, hP, h19_70, h19_1, h19_2, h19_7, h19_8, h19_9, h19_10, h19_11, hops, hopl, hln, ia_at e1]
                    refine ⟨_, Cell.at 0 rfl rfl, ?_⟩
                    try with_reducible refine stI ?_
                    try simp (maxSteps:=1000000)(dsimp:=false)(disch:=omega) only [go_sem, Φa, hP, h19_70, h19_1, h19_2, h19_7, h19_8, h19_9, h19_10, h19_11, hops, hopl, hln, ia_at e1]
                    refine ⟨_, Cell.at 1 rfl hv, ?_⟩
                    try with_reducible refine stI ?_
                    try simp (maxSteps:=1000000)(dsimp:=false)(disch:=omega) only [go_sem, Φa, hP, h19_70, h19_1, h19_2, h19_7, h19_8, h19_9, h19_10, h19_11, hops, hopl, hln, ia_at e1]
                    refine ⟨_, Cell.cons _ (Cell.cons _ (Cell.app _ (hck 2 _ rfl))), ?_⟩
                    try with_reducible refine stI ?_
                    try simp (maxSteps:=1000000)(dsimp:=false)(disch:=omega) only [go_sem, Φa, hP, h19_70, h19_1, h19_2, h19_7, h19_8, h19_9, h19_10, h19_11, hops, hopl, hln, ia_at e1]
                    intro g20
                    try with_reducible refine stI ?_
                    try simp (maxSteps:=1000000)(dsimp:=false)(disch:=omega) only [go_sem, Φa, hP, h19_70, h19_1, h19_2, h19_7, h19_8, h19_9, h19_10, h19_11, hops, hopl, hln, ia_at e1]
                    refine ⟨Less.drops lessG20, ?_⟩
                    try with_reducible refine stI ?_
                    try simp (maxSteps:=1000000)(dsimp:=false)(disch:=omega) only [go_sem, Φa, hP, h19_70, h19_1, h19_2, h19_7, h19_8, h19_9, h19_10, h19_11, hops, hopl, hln, ia_at e1]
                    refine YAppend.int1 (i := lineN X + 5) (hP ▸ T.elS_50) (hP ▸ T.zr_5) rfl (get5 hlj) hrw (by omega) (by decide) ?_
                    intro v' s' hr'
                    obtain ⟨A', c', rfl, hcc', _⟩ := Row.form hr'
                    try with_reducible refine stI ?_
                    try simp (maxSteps:=1000000)(dsimp:=false)(disch:=omega) only [go_sem, Φa, hP, h19_70, h19_1, h19_2, h19_7, h19_8, h19_9, h19_10, h19_11, hops, hopl, hln, ia_at e1]
                    rw [seg_set hlj]
                    refine ⟨Less.drops (lessG20 (d := ⟨d.g, d.vals, _⟩)), ?_⟩
                    try with_reducible refine stI ?_
                    try simp (maxSteps:=1000000)(dsimp:=false)(disch:=omega) only [go_sem, Φa, hP, h19_70, h19_1, h19_2, h19_7, h19_8, h19_9, h19_10, h19_11, hops, hopl, hln, ia_at e1]
                    refine ⟨5, _, _, _, rfl, (by have := hd.nv; simp; omega), .inr (by omega), ?_⟩
                    try with_reducible refine stI ?_
                    try simp (maxSteps:=1000000)(dsimp:=false)(disch:=omega) only [go_sem, Φa, hP, h19_70, h19_1, h19_2, h19_7, h19_8, h19_9, h19_10, h19_11, hops, hopl, hln, ia_at e1]
                    refine hK38 (⟨d.g, d.vals.set (lineN X) (.slice A' (fr.getD (lineN X) [] ++ [r.data]).length c'), d.ss.set (lineN X) s'⟩ : Fd) _ (some (g16, .cells [.int .u8 r.code, .int .u16 0, .bool r.rd, .bool r.wr, .bool false, .int .u8 0, .int .u8 r.port, .bool false].toArray 49 (0, 0)) :: some (bN, .cells [.int .i64 na1, (.slice (some ⟨((⟨d.g, d.vals.set (lineN X) (.slice A' (fr.getD (lineN X) [] ++ [r.data]).length c'), d.ss.set (lineN X) s'⟩ : Fd)).g, 0, none⟩) 128 128), .bool nb1].toArray 41 (0, 0)) :: some (bR, .cells [.int .i64 X.1, .int .i64 X.2.1, .bool X.2.2.1, .int .i64 X.2.2.2].toArray 24 (0, 0)) :: so :: (((⟨d.g, d.vals.set (lineN X) (.slice A' (fr.getD (lineN X) [] ++ [r.data]).length c'), d.ss.set (lineN X) s'⟩ : Fd)).seg ++ (segs fs ++ L))) _ (by exact less20 hlj) ?_
                    try dsimp only
                    refine ⟨?_, ?_, ?_, ?_, ?_, ?_, ?_, ?_, ?_⟩
                    · simp (maxSteps:=1000000)(dsimp:=false)(disch:=omega) only [go_sem, Φa, hP, h19_70, h19_1, h19_2, h19_7, h19_8, h19_9, h19_10, h19_11]
                    · simp (maxSteps:=1000000)(dsimp:=false)(disch:=omega) only [go_sem, Φa, hP, h19_70, h19_1, h19_2, h19_7, h19_8, h19_9, h19_10, h19_11]
                    · simp (maxSteps:=1000000)(dsimp:=false)(disch:=omega) only [go_sem, Φa, hP, h19_70, h19_1, h19_2, h19_7, h19_8, h19_9, h19_10, h19_11]
                    · simp (maxSteps:=1000000)(dsimp:=false)(disch:=omega) only [go_sem, Φa, hP, h19_70, h19_1, h19_2, h19_7, h19_8, h19_9, h19_10, h19_11]
                    · simp (maxSteps:=1000000)(dsimp:=false)(disch:=omega) only [go_sem, Φa, hP, h19_70, h19_1, h19_2, h19_7, h19_8, h19_9, h19_10, h19_11]
                    · simp (maxSteps:=1000000)(dsimp:=false)(disch:=omega) only [go_sem, Φa, hP, h19_70, h19_1, h19_2, h19_7, h19_8, h19_9, h19_10, h19_11]
                    · simp (maxSteps:=1000000)(dsimp:=false)(disch:=omega) only [go_sem, Φa, hP, h19_70, h19_1, h19_2, h19_7, h19_8, h19_9, h19_10, h19_11]
                    · rfl
                    · unfold tookN
                      rw [if_pos hc70]
                      exact hd.set hlt.1 hr'
                  · clear hX41 hY41 X41 Y41
                    refine SX.skip ?_
                    try simp only [andThen_normal, andThen_ret, andThen_exit, inBlk_normal, inBlk_ret, inBlk_exit, Nat.reduceEqDiff, if_true, if_false, ↓reduceIte]
                    refine hK38 d _ (some (g16, .cells [.int .u8 r.code, .int .u16 0, .bool r.rd, .bool r.wr, .bool false, .int .u8 0, .int .u8 r.port, .bool false].toArray 49 (0, 0)) :: some (bN, .cells [.int .i64 na1, (.slice (some ⟨d.g, 0, none⟩) 128 128), .bool nb1].toArray 41 (0, 0)) :: some (bR, .cells [.int .i64 X.1, .int .i64 X.2.1, .bool X.2.2.1, .int .i64 X.2.2.2].toArray 24 (0, 0)) :: so :: (d.seg ++ (segs fs ++ L))) _ (by exact Less.refl _) ?_
                    try dsimp only
                    refine ⟨?_, ?_, ?_, ?_, ?_, ?_, ?_, ?_, ?_⟩
                    · simp (maxSteps:=1000000)(dsimp:=false)(disch:=omega) only [go_sem, Φa, hP, h19_70, h19_1, h19_2, h19_7, h19_8, h19_9, h19_10, h19_11]
                    · simp (maxSteps:=1000000)(dsimp:=false)(disch:=omega) only [go_sem, Φa, hP, h19_70, h19_1, h19_2, h19_7, h19_8, h19_9, h19_10, h19_11]
                    · simp (maxSteps:=1000000)(dsimp:=false)(disch:=omega) only [go_sem, Φa, hP, h19_70, h19_1, h19_2, h19_7, h19_8, h19_9, h19_10, h19_11]
                    · simp (maxSteps:=1000000)(dsimp:=false)(disch:=omega) only [go_sem, Φa, hP, h19_70, h19_1, h19_2, h19_7, h19_8, h19_9, h19_10, h19_11]
                    · simp (maxSteps:=1000000)(dsimp:=false)(disch:=omega) only [go_sem, Φa, hP, h19_70, h19_1, h19_2, h19_7, h19_8, h19_9, h19_10, h19_11]
                    · simp (maxSteps:=1000000)(dsimp:=false)(disch:=omega) only [go_sem, Φa, hP, h19_70, h19_1, h19_2, h19_7, h19_8, h19_9, h19_10, h19_11]
                    · simp (maxSteps:=1000000)(dsimp:=false)(disch:=omega) only [go_sem, Φa, hP, h19_70, h19_1, h19_2, h19_7, h19_8, h19_9, h19_10, h19_11]
                    · rfl
                    · unfold tookN
                      rw [if_neg (by rw [hc70]; exact Bool.false_ne_true)]
                      exact hd
              · intro d1 T20 L20 hI
                try dsimp only at hI 
                simp only [h17_1, h17_2, h17_7, h17_8, h17_9, h17_10, h17_11] at hI 
                obtain ⟨h20_1, h20_2, h20_7, h20_8, h20_9, h20_10, h20_11, hL20, hd1⟩ := hI
                replace hL20 := hL20.symm
                subst hL20
                clear h17_1 h17_2 h17_7 h17_8 h17_9 h17_10 h17_11 h17_12 T17
                refine SX.seq_k fun K43 hK43 => ?_
                refine SX.drawn_d [(0, .q), (1, .q), (2, .q), (3, .q), (4, .q), (5, .q), (6, .q), (7, .e), (8, .t)] (fun L => L) (hP ▸ T.mixed) (by kernel_rfl) (by exact Less.refl _) [some 90, some 91, some 92, some 93, some 94, some 95, some 96, some 97, none] rfl (fun ops hops hopl => ?_)
                unfold Dsts at hops
                simp (maxSteps:=1000000)(dsimp:=false)(disch:=omega) only [go_sem, Φa, hP, h20_1, h20_2, h20_7, h20_8, h20_9, h20_10, h20_11, hops, hopl, ia_at e1]
                refine ⟨_, Cell.at 2 rfl rfl, _, Cell.at 2 rfl rfl, _, Cell.at 2 rfl rfl, _, Cell.at 2 rfl rfl, ?_⟩
                try with_reducible refine stI ?_
                try simp (maxSteps:=1000000)(dsimp:=false)(disch:=omega) only [go_sem, Φa, hP, h20_1, h20_2, h20_7, h20_8, h20_9, h20_10, h20_11, hops, hopl, ia_at e1]
                refine ⟨_, Cell.at 0 rfl rfl, _, Cell.at 0 rfl rfl, _, Cell.at 0 rfl rfl, _, Cell.at 0 rfl rfl, _, Cell.at 0 rfl rfl, _, Cell.at 0 rfl rfl, _, Cell.at 0 rfl rfl, _, Cell.at 0 rfl rfl, ?_⟩
                try with_reducible refine stI ?_
                try simp (maxSteps:=1000000)(dsimp:=false)(disch:=omega) only [go_sem, Φa, hP, h20_1, h20_2, h20_7, h20_8, h20_9, h20_10, h20_11, hops, hopl, ia_at e1]
                refine ⟨_, Cell.cons _ (Cell.cons _ (Cell.cons _ (Cell.cons _ (Cell.app _ (Cell.app _ (hck 7 _ rfl)))))), ?_⟩
                try with_reducible refine stI ?_
                try simp (maxSteps:=1000000)(dsimp:=false)(disch:=omega) only [go_sem, Φa, hP, h20_1, h20_2, h20_7, h20_8, h20_9, h20_10, h20_11, hops, hopl, ia_at e1]
                refine SCall.mono (refStepR_spec hP) ?_
                rintro v_ L_ ⟨hv_, hL_⟩
                rw [hv_, hL_]
                clear hv_ hL_ v_ L_
                try with_reducible refine stI ?_
                try simp (maxSteps:=1000000)(dsimp:=false)(disch:=omega) only [go_sem, Φa, hP, h20_1, h20_2, h20_7, h20_8, h20_9, h20_10, h20_11, hops, hopl, ia_at e1]
                refine ⟨2, _, _, _, rfl, by simp, .inr (by decide), ?_⟩
                try with_reducible refine stI ?_
                try simp (maxSteps:=1000000)(dsimp:=false)(disch:=omega) only [go_sem, Φa, hP, h20_1, h20_2, h20_7, h20_8, h20_9, h20_10, h20_11, hops, hopl, ia_at e1]
                refine hK43 _ _ ?_
                try clear hK43 K43
                refine SX.seq_k fun K44 hK44 => ?_
                refine SX.region_xd [some 98, some 99, some 100, some 101, some 102, some 103, some 104, some 105, some 106, some 107, some 108] rfl (fun ops hops => ?_)
                unfold Dsts at hops
                refine RX.live [1, 2, 7, 8, 9, 10] (fun T21 hT21 => ?_)
                simp only [forall_mem_cons', forall_mem_nil', go_sem, Φa, hP, h20_1, h20_2, h20_7, h20_8, h20_9, h20_10, h20_11] at hT21
                obtain ⟨h21_1, h21_2, h21_7, h21_8, h21_9, h21_10⟩ := hT21
                clear h20_1 h20_2 h20_7 h20_8 h20_9 h20_10 h20_11 T20
                refine RX.join 6 (fun (ss : Unit) T L' => T 103 = .bool (decide ((rasN X r).1 = 0)) ∧ T 1 = T21 1 ∧ T 2 = T21 2 ∧ T 7 = T21 7 ∧ T 8 = T21 8 ∧ T 9 = T21 9 ∧ T 10 = T21 10 ∧ L' = some (g16, .cells [.int .u8 r.code, .int .u16 0, .bool r.rd, .bool r.wr, .bool false, .int .u8 0, .int .u8 r.port, .bool false].toArray 49 (0, 0)) :: some (bN, .cells [.int .i64 na1, (.slice (some ⟨d1.g, 0, none⟩) 128 128), .bool nb1].toArray 41 (0, 0)) :: some (bR, .cells [.int .i64 (rasN X r).1, .int .i64 (rasN X r).2.1, .bool (rasN X r).2.2.1, .int .i64 (rasN X r).2.2.2].toArray 24 (0, 0)) :: so :: (d1.seg ++ (segs fs ++ L)) ∧ (True)) (fun K45 hK45 => ?_) ?_
                · simp only [h21_1, h21_2, h21_7, h21_8, h21_9, h21_10] at hK45
                  simp (maxSteps:=1000000)(dsimp:=false)(disch:=omega) only [go_sem, Φa, hP, h21_1, h21_2, h21_7, h21_8, h21_9, h21_10, hops]
                  repeat' (first | refine iteB (fun hg => ?_) (fun hg => ?_) | refine iteI (fun hg => ?_) (fun hg => ?_) | ((first | refine And.intro (by omega) ?_ | refine ⟨_, Cell.at 0 rfl rfl, ?_⟩ | refine ⟨_, Cell.at 1 rfl rfl, ?_⟩ | refine ⟨_, Cell.at 2 rfl rfl, ?_⟩ | refine ⟨_, Cell.at 3 rfl rfl, ?_⟩ | fail); try (with_reducible refine stI ?_); try simp (maxSteps:=1000000)(dsimp:=false)(disch:=omega) only [go_sem, Φa, hP, h21_1, h21_2, h21_7, h21_8, h21_9, h21_10, hops]) | fail)
                  all_goals
                    refine hK45 () _ (some (g16, .cells [.int .u8 r.code, .int .u16 0, .bool r.rd, .bool r.wr, .bool false, .int .u8 0, .int .u8 r.port, .bool false].toArray 49 (0, 0)) :: some (bN, .cells [.int .i64 na1, (.slice (some ⟨d1.g, 0, none⟩) 128 128), .bool nb1].toArray 41 (0, 0)) :: some (bR, .cells [.int .i64 (rasN X r).1, .int .i64 (rasN X r).2.1, .bool (rasN X r).2.2.1, .int .i64 (rasN X r).2.2.2].toArray 24 (0, 0)) :: so :: (d1.seg ++ (segs fs ++ L))) _ (by first | exact Less.refl _ | exact Less.drop _ _ | exact Less.drops (Less.drop _ _) | exact Less.drops (Less.drops (Less.drop _ _)) | exact Less.drops (Less.drops (Less.drops (Less.drop _ _))) | exact Less.drops (Less.drops (Less.drops (Less.drops (Less.drop _ _))))) ?_
                    try dsimp only
                    refine ⟨?_, ?_, ?_, ?_, ?_, ?_, ?_, ?_, ?_⟩
                    · simp (maxSteps:=1000000)(dsimp:=false)(disch:=omega) only [go_sem, Φa, hP, h21_1, h21_2, h21_7, h21_8, h21_9, h21_10]
                      first | done | rfl | (refine congrArg Value.bool ?_; unfold atZ; first | (rw [hg, Bool.true_and]; done) | (rw [hg, Bool.false_and]; done) | (rw [decide_eq_true hg, Bool.true_and]; done) | (rw [decide_eq_false hg, Bool.false_and]; done) | (rw [decide_eq_true hg]; rfl))
                    · simp (maxSteps:=1000000)(dsimp:=false)(disch:=omega) only [go_sem, Φa, hP, h21_1, h21_2, h21_7, h21_8, h21_9, h21_10]
                    · simp (maxSteps:=1000000)(dsimp:=false)(disch:=omega) only [go_sem, Φa, hP, h21_1, h21_2, h21_7, h21_8, h21_9, h21_10]
                    · simp (maxSteps:=1000000)(dsimp:=false)(disch:=omega) only [go_sem, Φa, hP, h21_1, h21_2, h21_7, h21_8, h21_9, h21_10]
                    · simp (maxSteps:=1000000)(dsimp:=false)(disch:=omega) only [go_sem, Φa, hP, h21_1, h21_2, h21_7, h21_8, h21_9, h21_10]
                    · simp (maxSteps:=1000000)(dsimp:=false)(disch:=omega) only [go_sem, Φa, hP, h21_1, h21_2, h21_7, h21_8, h21_9, h21_10]
                    · simp (maxSteps:=1000000)(dsimp:=false)(disch:=omega) only [go_sem, Φa, hP, h21_1, h21_2, h21_7, h21_8, h21_9, h21_10]
                    · rfl
                    · trivial
                · intro ss T22 L22 hI
                  simp only [h21_1, h21_2, h21_7, h21_8, h21_9, h21_10] at hI 
                  obtain ⟨h22_103, h22_1, h22_2, h22_7, h22_8, h22_9, h22_10, hL22, hinv⟩ := hI
                  replace hL22 := hL22.symm
                  subst hL22
                  clear h21_1 h21_2 h21_7 h21_8 h21_9 h21_10 T21
                  refine RX.live [1, 2, 7, 8, 9, 10, 103] (fun T23 hT23 => ?_)
                  simp only [forall_mem_cons', forall_mem_nil', go_sem, Φa, hP, h22_103, h22_1, h22_2, h22_7, h22_8, h22_9, h22_10] at hT23
                  obtain ⟨h23_1, h23_2, h23_7, h23_8, h23_9, h23_10, h23_103⟩ := hT23
                  clear h22_103 h22_1 h22_2 h22_7 h22_8 h22_9 h22_10 T22
                  refine RX.join 5 (fun (ss : Unit) T L' => T 108 = .bool (atZ (rasN X r)) ∧ T 1 = T23 1 ∧ T 2 = T23 2 ∧ T 7 = T23 7 ∧ T 8 = T23 8 ∧ T 9 = T23 9 ∧ T 10 = T23 10 ∧ L' = some (g16, .cells [.int .u8 r.code, .int .u16 0, .bool r.rd, .bool r.wr, .bool false, .int .u8 0, .int .u8 r.port, .bool false].toArray 49 (0, 0)) :: some (bN, .cells [.int .i64 na1, (.slice (some ⟨d1.g, 0, none⟩) 128 128), .bool nb1].toArray 41 (0, 0)) :: some (bR, .cells [.int .i64 (rasN X r).1, .int .i64 (rasN X r).2.1, .bool (rasN X r).2.2.1, .int .i64 (rasN X r).2.2.2].toArray 24 (0, 0)) :: so :: (d1.seg ++ (segs fs ++ L)) ∧ (True)) (fun K46 hK46 => ?_) ?_
                  · simp only [h23_1, h23_2, h23_7, h23_8, h23_9, h23_10] at hK46
                    simp (maxSteps:=1000000)(dsimp:=false)(disch:=omega) only [go_sem, Φa, hP, h23_1, h23_2, h23_7, h23_8, h23_9, h23_10, h23_103, hops]
                    repeat' (first | refine iteB (fun hg => ?_) (fun hg => ?_) | refine iteI (fun hg => ?_) (fun hg => ?_) | ((first | refine And.intro (by omega) ?_ | refine ⟨_, Cell.at 0 rfl rfl, ?_⟩ | refine ⟨_, Cell.at 1 rfl rfl, ?_⟩ | refine ⟨_, Cell.at 2 rfl rfl, ?_⟩ | refine ⟨_, Cell.at 3 rfl rfl, ?_⟩ | fail); try (with_reducible refine stI ?_); try simp (maxSteps:=1000000)(dsimp:=false)(disch:=omega) only [go_sem, Φa, hP, h23_1, h23_2, h23_7, h23_8, h23_9, h23_10, h23_103, hops]) | fail)
                    all_goals
                      refine hK46 () _ (some (g16, .cells [.int .u8 r.code, .int .u16 0, .bool r.rd, .bool r.wr, .bool false, .int .u8 0, .int .u8 r.port, .bool false].toArray 49 (0, 0)) :: some (bN, .cells [.int .i64 na1, (.slice (some ⟨d1.g, 0, none⟩) 128 128), .bool nb1].toArray 41 (0, 0)) :: some (bR, .cells [.int .i64 (rasN X r).1, .int .i64 (rasN X r).2.1, .bool (rasN X r).2.2.1, .int .i64 (rasN X r).2.2.2].toArray 24 (0, 0)) :: so :: (d1.seg ++ (segs fs ++ L))) _ (by first | exact Less.refl _ | exact Less.drop _ _ | exact Less.drops (Less.drop _ _) | exact Less.drops (Less.drops (Less.drop _ _)) | exact Less.drops (Less.drops (Less.drops (Less.drop _ _))) | exact Less.drops (Less.drops (Less.drops (Less.drops (Less.drop _ _))))) ?_
                      try dsimp only
                      refine ⟨?_, ?_, ?_, ?_, ?_, ?_, ?_, ?_, ?_⟩
                      · simp (maxSteps:=1000000)(dsimp:=false)(disch:=omega) only [go_sem, Φa, hP, h23_1, h23_2, h23_7, h23_8, h23_9, h23_10, h23_103]
                        first | done | rfl | (refine congrArg Value.bool ?_; unfold atZ; first | (rw [hg, Bool.true_and]; done) | (rw [hg, Bool.false_and]; done) | (rw [decide_eq_true hg, Bool.true_and]; done) | (rw [decide_eq_false hg, Bool.false_and]; done) | (rw [decide_eq_true hg]; rfl))
                      · simp (maxSteps:=1000000)(dsimp:=false)(disch:=omega) only [go_sem, Φa, hP, h23_1, h23_2, h23_7, h23_8, h23_9, h23_10, h23_103]
                      · simp (maxSteps:=1000000)(dsimp:=false)(disch:=omega) only [go_sem, Φa, hP, h23_1, h23_2, h23_7, h23_8, h23_9, h23_10, h23_103]
                      · simp (maxSteps:=1000000)(dsimp:=false)(disch:=omega) only [go_sem, Φa, hP, h23_1, h23_2, h23_7, h23_8, h23_9, h23_10, h23_103]
                      · simp (maxSteps:=1000000)(dsimp:=false)(disch:=omega) only [go_sem, Φa, hP, h23_1, h23_2, h23_7, h23_8, h23_9, h23_10, h23_103]
                      · simp (maxSteps:=1000000)(dsimp:=false)(disch:=omega) only [go_sem, Φa, hP, h23_1, h23_2, h23_7, h23_8, h23_9, h23_10, h23_103]
                      · simp (maxSteps:=1000000)(dsimp:=false)(disch:=omega) only [go_sem, Φa, hP, h23_1, h23_2, h23_7, h23_8, h23_9, h23_10, h23_103]
                      · rfl
                      · trivial
                  · intro ss T24 L24 hI
                    simp only [h23_1, h23_2, h23_7, h23_8, h23_9, h23_10] at hI 
                    obtain ⟨h24_108, h24_1, h24_2, h24_7, h24_8, h24_9, h24_10, hL24, hinv⟩ := hI
                    replace hL24 := hL24.symm
                    subst hL24
                    clear h23_1 h23_2 h23_7 h23_8 h23_9 h23_10 h23_103 T23
                    refine RX.done ?_
                    simp (maxSteps:=1000000)(dsimp:=false)(disch:=omega) only [go_sem, Φa, hP, h24_108, h24_1, h24_2, h24_7, h24_8, h24_9, h24_10, hops]
                    refine hK44 _ _ ?_
                    try clear hK44 K44
                    refine SX.cond_k fun X47 Y47 hX47 hY47 => ?_
                    simp (maxSteps:=1000000)(dsimp:=false)(disch:=omega) only [go_sem, Φa, hP, h24_108, h24_1, h24_2, h24_7, h24_8, h24_9, h24_10, condVC]
                    refine ⟨fun hc108 => hX47 ?_, fun hc108 => hY47 ?_⟩
                    · clear hX47 hY47 X47 Y47
                      refine SX.seq_k fun K48 hK48 => ?_
                      have hcb2 := tookN_cnt (x := X) (r := r) hcb.2
                      have hsl1 : SlR (Cell Γ (some (g16, .cells [.int .u8 r.code, .int .u16 0, .bool r.rd, .bool r.wr, .bool false, .int .u8 0, .int .u8 r.port, .bool false].toArray 49 (0, 0)) :: some (bN, .cells [.int .i64 na1, (.slice (some ⟨d1.g, 0, none⟩) 128 128), .bool nb1].toArray 41 (0, 0)) :: some (bR, .cells [.int .i64 (rasN X r).1, .int .i64 (rasN X r).2.1, .bool (rasN X r).2.2.1, .int .i64 (rasN X r).2.2.2].toArray 24 (0, 0)) :: so :: (d1.seg ++ (segs fs ++ L)))) d1.val (tookN X r fr) := hd1.sl (fun s hs => List.mem_cons_of_mem _ (List.mem_cons_of_mem _ (List.mem_cons_of_mem _ (List.mem_cons_of_mem _ (List.mem_append_left _ hs)))))
                      have hrl1 := tookN_len X r fr
                      have hshb : decide (((cnt (tookN X r fr) : Nat) : Int) < 1024) = shortB (tookN X r fr) := decide_eq_decide.2 (by omega)
                      refine SX.region_d [some 109, some 110, some 111, some 14] rfl (fun ops hops => ?_)
                      unfold Dsts at hops
                      simp (maxSteps:=1000000)(dsimp:=false)(disch:=omega) only [go_sem, Φa, hP, h24_108, h24_1, h24_2, h24_7, h24_8, h24_9, h24_10, hops]
                      refine ⟨_, Cell.at 1 rfl rfl, ?_⟩
                      try with_reducible refine stI ?_
                      try simp (maxSteps:=1000000)(dsimp:=false)(disch:=omega) only [go_sem, Φa, hP, h24_108, h24_1, h24_2, h24_7, h24_8, h24_9, h24_10, hops]
                      refine SCall.mono (refCount_spec hP hsl1 (by omega) (by omega)) ?_
                      rintro v_ L_ ⟨hv_, hL_⟩
                      rw [hv_, hL_]
                      clear hv_ hL_ v_ L_
                      try with_reducible refine stI ?_
                      try simp (maxSteps:=1000000)(dsimp:=false)(disch:=omega) only [go_sem, Φa, hP, h24_108, h24_1, h24_2, h24_7, h24_8, h24_9, h24_10, hops]
                      refine hK48 _ _ ?_
                      try clear hK48 K48
                      refine SX.seq_k fun K49 hK49 => ?_
                      refine SX.region_d [some 112, some 113, some 114, none] rfl (fun ops hops => ?_)
                      unfold Dsts at hops
                      simp (maxSteps:=1000000)(dsimp:=false)(disch:=omega) only [go_sem, Φa, hP, h24_108, h24_1, h24_2, h24_7, h24_8, h24_9, h24_10, hops, hshb]
                      refine ⟨1, _, _, _, rfl, (by simp), .inr (by decide), ?_⟩
                      try with_reducible refine stI ?_
                      try simp (maxSteps:=1000000)(dsimp:=false)(disch:=omega) only [go_sem, Φa, hP, h24_108, h24_1, h24_2, h24_7, h24_8, h24_9, h24_10, hops, hshb]
                      refine hK49 _ _ ?_
                      try clear hK49 K49
                      refine SX.seq_k fun K50 hK50 => ?_
                      refine SX.region_d [some 115, some 116, some 117, some 118, some 7] rfl (fun ops hops => ?_)
                      unfold Dsts at hops
                      simp (maxSteps:=1000000)(dsimp:=false)(disch:=omega) only [go_sem, Φa, hP, h24_108, h24_1, h24_2, h24_7, h24_8, h24_9, h24_10, hops]
                      refine ⟨_, Cell.at 1 rfl rfl, _, Cell.at 1 rfl rfl, _, Cell.at 1 rfl rfl, ?_⟩
                      try with_reducible refine stI ?_
                      try simp (maxSteps:=1000000)(dsimp:=false)(disch:=omega) only [go_sem, Φa, hP, h24_108, h24_1, h24_2, h24_7, h24_8, h24_9, h24_10, hops]
                      intro g27
                      try with_reducible refine stI ?_
                      try simp (maxSteps:=1000000)(dsimp:=false)(disch:=omega) only [go_sem, Φa, hP, h24_108, h24_1, h24_2, h24_7, h24_8, h24_9, h24_10, hops]
                      refine YAppend.rowL (f := fval) (x := ((⟨na1, tookN X r fr, shortB (tookN X r fr)⟩ : Fm), d1)) (i := 3) (z := [.int .i64 0, .slice none 0 0, .bool false]) (hP ▸ T.elS_30) (hP ▸ T.zr_41) rfl rfl rfl rfl hrow (by omega) (by decide) ?_
                      intro v' s' hrow'
                      try with_reducible refine stI ?_
                      try simp (maxSteps:=1000000)(dsimp:=false)(disch:=omega) only [go_sem, Φa, hP, h24_108, h24_1, h24_2, h24_7, h24_8, h24_9, h24_10, hops]
                      refine hK50 _ _ ?_
                      try clear hK50 K50
                      refine SX.live [1, 2, 7, 9, 10] (fun T25 hT25 => ?_)
                      simp only [forall_mem_cons', forall_mem_nil', go_sem, Φa, hP, h24_108, h24_1, h24_2, h24_7, h24_8, h24_9, h24_10] at hT25
                      obtain ⟨h25_1, h25_2, h25_7, h25_9, h25_10⟩ := hT25
                      clear h24_108 h24_1 h24_2 h24_7 h24_8 h24_9 h24_10 T24
                      refine SX.region_d [some 8] rfl (fun ops hops => ?_)
                      unfold Dsts at hops
                      simp (maxSteps:=1000000)(dsimp:=false)(disch:=omega) only [go_sem, Φa, hP, h25_1, h25_2, h25_7, h25_9, h25_10, hops]
                      refine hK21 _ _ ?_
                      try clear hK21 K21
                      refine SX.region_d [some 30, some 31, some 10] rfl (fun ops hops => ?_)
                      unfold Dsts at hops
                      simp (maxSteps:=1000000)(dsimp:=false)(disch:=omega) only [go_sem, Φa, hP, h25_1, h25_2, h25_7, h25_9, h25_10, hops]
                      repeat' ((first | refine And.intro (by omega) ?_ | fail); try (with_reducible refine stI ?_); try simp (maxSteps:=1000000)(dsimp:=false)(disch:=omega) only [go_sem, Φa, hP, h25_1, h25_2, h25_7, h25_9, h25_10, hops])
                      refine hK17 (k + 1, rasN X r, none, na1, .slice (some ⟨d1.g, 0, none⟩) 128 128, shortB (tookN X r fr), v', s', fs ++ [((⟨na1, tookN X r fr, shortB (tookN X r fr)⟩ : Fm), d1)]) _ (some (bN, .cells [.int .i64 na1, (.slice (some ⟨d1.g, 0, none⟩) 128 128), .bool (shortB (tookN X r fr))].toArray 41 (0, 0)) :: some (bR, .cells [.int .i64 (rasN X r).1, .int .i64 (rasN X r).2.1, .bool (rasN X r).2.2.1, .int .i64 (rasN X r).2.2.2].toArray 24 (0, 0)) :: s' :: (nowR none ++ (segs (fs ++ [((⟨na1, tookN X r fr, shortB (tookN X r fr)⟩ : Fm), d1)]) ++ L))) _ (by exact less_fin2 (fs := fs) (p := ((⟨na1, tookN X r fr, shortB (tookN X r fr)⟩ : Fm), d1))) ?_ ?_
                      · try dsimp only
                        refine ⟨?_, ?_, ?_, ?_, ?_, ?_, ?_, ?_⟩
                        · simp (maxSteps:=1000000)(dsimp:=false)(disch:=omega) only [go_sem, Φa, hP, h25_1, h25_2, h25_7, h25_9, h25_10]
                          first | done | rfl | skip
                        · simp (maxSteps:=1000000)(dsimp:=false)(disch:=omega) only [go_sem, Φa, hP, h25_1, h25_2, h25_7, h25_9, h25_10]
                          first | done | rfl | skip
                        · simp (maxSteps:=1000000)(dsimp:=false)(disch:=omega) only [go_sem, Φa, hP, h25_1, h25_2, h25_7, h25_9, h25_10]
                          first | done | rfl | skip
                        · simp (maxSteps:=1000000)(dsimp:=false)(disch:=omega) only [go_sem, Φa, hP, h25_1, h25_2, h25_7, h25_9, h25_10]
                        · simp (maxSteps:=1000000)(dsimp:=false)(disch:=omega) only [go_sem, Φa, hP, h25_1, h25_2, h25_7, h25_9, h25_10]
                        · simp (maxSteps:=1000000)(dsimp:=false)(disch:=omega) only [go_sem, Φa, hP, h25_1, h25_2, h25_7, h25_9, h25_10]
                        · rfl
                        · refine ⟨by omega, hrow', FsOk.app hfs hd1, fun q hq => (by cases hq), rfl, ?_⟩
                          rw [hstep, stF_fin hns1.symm hc108, List.map_append]
                          rfl
                      · (try dsimp only); omega
                    · clear hX47 hY47 X47 Y47
                      refine SX.skip ?_
                      try simp only [andThen_normal, andThen_ret, andThen_exit, inBlk_normal, inBlk_ret, inBlk_exit, Nat.reduceEqDiff, if_true, if_false, ↓reduceIte]
                      refine hK21 _ _ ?_
                      try clear hK21 K21
                      refine SX.region_d [some 30, some 31, some 10] rfl (fun ops hops => ?_)
                      unfold Dsts at hops
                      simp (maxSteps:=1000000)(dsimp:=false)(disch:=omega) only [go_sem, Φa, hP, h24_108, h24_1, h24_2, h24_7, h24_8, h24_9, h24_10, hops]
                      repeat' ((first | refine And.intro (by omega) ?_ | fail); try (with_reducible refine stI ?_); try simp (maxSteps:=1000000)(dsimp:=false)(disch:=omega) only [go_sem, Φa, hP, h24_108, h24_1, h24_2, h24_7, h24_8, h24_9, h24_10, hops])
                      refine hK17 (k + 1, rasN X r, some ((⟨na1, tookN X r fr, false⟩ : Fm), d1), na1, .slice (some ⟨d1.g, 0, none⟩) 128 128, nb1, vo, so, fs) _ (some (bN, .cells [.int .i64 na1, (.slice (some ⟨d1.g, 0, none⟩) 128 128), .bool nb1].toArray 41 (0, 0)) :: some (bR, .cells [.int .i64 (rasN X r).1, .int .i64 (rasN X r).2.1, .bool (rasN X r).2.2.1, .int .i64 (rasN X r).2.2.2].toArray 24 (0, 0)) :: so :: (nowR (some ((⟨na1, tookN X r fr, false⟩ : Fm), d1)) ++ (segs fs ++ L))) _ (by exact Less.drop _ _) ?_ ?_
                      · try dsimp only
                        refine ⟨?_, ?_, ?_, ?_, ?_, ?_, ?_, ?_⟩
                        · simp (maxSteps:=1000000)(dsimp:=false)(disch:=omega) only [go_sem, Φa, hP, h24_108, h24_1, h24_2, h24_7, h24_8, h24_9, h24_10]
                          first | done | rfl | skip
                        · simp (maxSteps:=1000000)(dsimp:=false)(disch:=omega) only [go_sem, Φa, hP, h24_108, h24_1, h24_2, h24_7, h24_8, h24_9, h24_10]
                          first | done | rfl | skip
                        · simp (maxSteps:=1000000)(dsimp:=false)(disch:=omega) only [go_sem, Φa, hP, h24_108, h24_1, h24_2, h24_7, h24_8, h24_9, h24_10]
                          first | done | rfl | skip
                        · simp (maxSteps:=1000000)(dsimp:=false)(disch:=omega) only [go_sem, Φa, hP, h24_108, h24_1, h24_2, h24_7, h24_8, h24_9, h24_10]
                        · simp (maxSteps:=1000000)(dsimp:=false)(disch:=omega) only [go_sem, Φa, hP, h24_108, h24_1, h24_2, h24_7, h24_8, h24_9, h24_10]
                        · simp (maxSteps:=1000000)(dsimp:=false)(disch:=omega) only [go_sem, Φa, hP, h24_108, h24_1, h24_2, h24_7, h24_8, h24_9, h24_10]
                        · rfl
                        · refine ⟨by omega, hrow, hfs, fun q hq => (by cases hq; exact ⟨hd1, rfl, rfl⟩), rfl, ?_⟩
                          rw [hstep, stF_go hns1.symm hc108]
                          rfl
                      · (try dsimp only); omega
        · clear hX20 hY20 X20 Y20
          refine SX.exit ?_
          try simp only [andThen_normal, andThen_ret, andThen_exit, inBlk_normal, inBlk_ret, inBlk_exit, Nat.reduceEqDiff, if_true, if_false, ↓reduceIte]
          refine hK15 _ _ ?_
          try clear hK15 K15
          refine SX.seq_k fun K51 hK51 => ?_
          refine SX.region_d [some 119, some 4, some 5] rfl (fun ops hops => ?_)
          unfold Dsts at hops
          simp (maxSteps:=1000000)(dsimp:=false)(disch:=omega) only [go_sem, Φa, hP, h3_7, h3_8, h3_10, h3_1, h3_2, h3_9, hops]
          refine hK51 _ _ ?_
          try clear hK51 K51
          refine SX.ret ?_
          simp only [andThen_normal, andThen_ret, andThen_exit, inBlk_normal, inBlk_ret, inBlk_exit, Nat.reduceEqDiff, if_true, if_false, ↓reduceIte, retQ_ret]
          try simp only [res0, res1, res2, res3, stK_e, go_sem, Φa, hP, h3_7, h3_8, h3_10, h3_1, h3_2, h3_9]
          obtain rfl : k = l.length := by omega
          refine ⟨_, _, less_end2, rfl, ?_⟩
          have ho := ofP_ok hok hgood
          rw [hst] at ho
          exact ⟨vo, so, fs, by rw [ho], rfl, hrow, hfs, by rw [ho]⟩

end Go.Proofs.YtpakphgeichopaaDoor
set_option linter.unusedVariables false
namespace Go.Proofs
open Go.Shelf Go.RowKit Go.Lib
def Tryd.lays169_ren : Go.Shelf.Ren := ⟨fun | 169 => 39 | n => n, fun | 70 => 70 | 9 => 9 | 0 => 0 | 72 => 72 | 37 => 50 | 127 => 93 | 3 => 3 | 5 => 5 | n => n, fun | n => n⟩
theorem Tryd.lays169 : Go.Proofs.Lays.n169 Tryd.prog Tryd.lays169_ren := {
  mixed := by kernel_rfl
  f169 := Tryd.func39.trans (congrArg some (by kernel_rfl))
  t0 := Tryd.underlying0
  a0 := Tryd.isAgg0
  z0 := Tryd.sizeOf0
  v0 := Tryd.zeroValue0
  t3 := Tryd.underlying3
  a3 := Tryd.isAgg3
  z3 := Tryd.sizeOf3
  v3 := Tryd.zeroValue3
  t9 := Tryd.underlying9
  a9 := Tryd.isAgg9
  z9 := Tryd.sizeOf9
  v9 := Tryd.zeroValue9
  t37 := Tryd.underlying50
  a37 := Tryd.isAgg50
  z37 := Tryd.sizeOf50
  v37 := Tryd.zeroValue50
  t70 := Tryd.underlying70
  a70 := Tryd.isAgg70
  z70 := Tryd.sizeOf70
  v70 := Tryd.zeroValue70
  t72 := Tryd.underlying72
  a72 := Tryd.isAgg72
  z72 := Tryd.sizeOf72
  v72 := Tryd.zeroValue72
  t127 := Tryd.underlying93
  a127 := Tryd.isAgg93
  z127 := Tryd.sizeOf93
  v127 := Tryd.zeroValue93 }
theorem Tryd.Builder_Extra_169 : Builder.Extra Tryd.prog Tryd.lays169_ren := {
  sizeBuilder := by kernel_rfl
  liesBuilder := by kernel_rfl
  t5 := Tryd.underlying5
  a5 := Tryd.isAgg5
  z5 := Tryd.sizeOf5
  v5 := Tryd.zeroValue5
  infoByte := by kernel_rfl
  cellsByte := by kernel_rfl
  sizeByte := by kernel_rfl
  neB5 := by decide }
theorem Tryd.Builder_String_any (B b : Nat) (l : List UInt8) (w : World) (h : Lib.IsBuilder 72 5 B b (Lib.byteCells l) w) (hBw : B ≤ w.heap.size) :
    Calls Tryd.prog 39 #[.pointer (some ⟨b, 0, none⟩)] w fun e w' => e = .returned (.string ⟨l.toArray⟩) ∧ Below B w w' := Any.Builder_String_any Tryd.lays169 Tryd.Builder_Extra_169 B b l w h hBw
end Go.Proofs
set_option linter.unusedVariables false
set_option linter.unusedSimpArgs false
namespace Go.Proofs.YtpakphgeichopaaDoor
open Go.RowKit Go.SX Go.Proofs
/-! strings.Builder: copyCheck. -/
theorem bInfo : (Tryd.prog.info? 72).map (·.size) = some 2 := by kernel_rfl
theorem bLies : liesAt Tryd.prog Tryd.prog.depth 72 (2 / Tryd.prog.cellsOf 72) 0 72 1 = true := by kernel_rfl
set_option maxHeartbeats 1000000 in
set_option maxRecDepth 100000 in
theorem copyCheck_used (b : Nat) (w : World) (h0 : w.cell? ⟨b, 0, none⟩ = some (.pointer (some ⟨b, 0, none⟩))) :
    Calls Tryd.prog 52 #[.pointer (some ⟨b, 0, none⟩)] w fun e w' => e = .returned (.tuple #[]) ∧ w' = w := by
  obtain ⟨j, hj, _⟩ := Option.map_eq_some_iff.1 bInfo
  go_enter Tryd.func52, Tryd.ntmps52
  go_wp2
  rw [Lib.run_neq_ptr_same w _ Tryd.underlying70 hj]
  go_wp2
  go_end0
  exact ⟨rfl, rfl⟩
set_option maxHeartbeats 1000000 in
set_option maxRecDepth 100000 in
theorem copyCheck_fresh (b : Nat) (w : World) (h0 : w.cell? ⟨b, 0, none⟩ = some (.pointer none)) (hsh : w.shape? b = some (72, 2)) (hfz : w.frozen? ⟨b, 0, none⟩ = false) :
    Calls Tryd.prog 52 #[.pointer (some ⟨b, 0, none⟩)] w fun e w' => e = .returned (.tuple #[]) ∧ w' = w.setCell ⟨b, 0, none⟩ (.pointer (some ⟨b, 0, none⟩)) := by
  obtain ⟨j, hj, hjs⟩ := Option.map_eq_some_iff.1 bInfo
  go_enter Tryd.func52, Tryd.ntmps52
  go_wp2
  rw [Lib.run_to_unsafe w ⟨b, 0, none⟩ Tryd.underlying70 Tryd.underlying94 hj (by rw [hjs]; decide) hsh (Nat.zero_lt_succ 1)]
  simp only [Result.andThen]
  rw [Oper.upon_value]
  go_wp2
  rw [run_callFunc_extern Tryd.func54 (by kernel_rfl) (by kernel_rfl) (by kernel_rfl) (e := Extern.AbiNoEscape.same) (by kernel_rfl)]
  rw [Lib.run_noEscape]
  simp only [Result.andThen]
  rw [Oper.upon_value]
  go_wp2
  rw [Lib.run_from_unsafe w ⟨b, 0, none⟩ Tryd.underlying94 Tryd.underlying70 hj hsh bLies]
  simp only [Result.andThen]
  rw [Oper.upon_value]
  go_wp2
  go_end0
  exact ⟨rfl, rfl⟩
end Go.Proofs.YtpakphgeichopaaDoor
set_option linter.unusedVariables false
set_option linter.unusedSimpArgs false
namespace Go.Proofs.YtpakphgeichopaaDoor
open Go.RowKit Go.SX Go.Proofs

abbrev BD (b : Nat) (p vb : Value) : Slot := some (b, .cells [p, vb].toArray 72 (0, 0))
abbrev selfP (b : Nat) : Value := .pointer (some ⟨b, 0, none⟩)
def Ptr (b : Nat) (p : Value) : Prop := p = .pointer none ∨ p = selfP b
theorem copyCheck_spec {Γ : Ctx} (hP : Γ.P = Tryd.prog) {b : Nat} {p vb : Value} {R : Hp} (hp : Ptr b p) : SCall Γ 52 #[selfP b] (BD b p vb :: R) (fun v L' => v = .tuple #[] ∧ L' = BD b (selfP b) vb :: R) := fun w hi => by
  have hb := hi.blk b _ (List.mem_cons_self ..)
  rw [hP]
  rcases hp with rfl | rfl
  · refine (copyCheck_fresh b w (by simp [World.cell?, hb]) (by simp [World.shape?, hb]) (by simp [World.frozen?, hb])).mono ?_
    rintro e w' ⟨rfl, rfl⟩
    refine ⟨_, _, rfl, hi.set (i := 0) (o' := .cells [selfP b, vb].toArray 72 (0, 0)) rfl ?_ (fun k hk => Below.heap_setCell _ _ _ _ hk) (World.size_setCell _ _ _) rfl rfl rfl, rfl, rfl⟩
    simp [World.setCell, Array.getElem?_modify, hb]
  · refine (copyCheck_used b w (by simp [World.cell?, hb])).mono ?_
    rintro e w' ⟨rfl, rfl⟩
    exact ⟨_, _, rfl, hi, rfl, rfl⟩
set_option maxHeartbeats 1000000 in
set_option maxRecDepth 100000 in
theorem WriteByte_spec {Γ : Ctx} (hP : Γ.P = Tryd.prog) {L : Hp} {b : Nat} {p vb : Value} {sb : Slot} {bs : List Int} {c : Int} (hp : Ptr b p) (hr : RowI .u8 5 vb bs sb) (hm : bs.length ≤ 140737488355327) :
    SCall Γ 38 #[(selfP b), (.int .u8 c)] (BD b p vb :: sb :: L) (fun v L' => v = .nilIface ∧ ∃ vb' sb', L' = BD b (selfP b) vb' :: sb' :: L ∧ RowI .u8 5 vb' (bs ++ [c]) sb') := by
  refine SCall.enter (n := 17) (res1 4) (hP ▸ Tryd.func38) rfl rfl (by simp) (res1_ok rfl) ?_
  refine SX.seq_k fun K1 hK1 => ?_
  refine SX.region_d [some 4] rfl (fun ops hops => ?_)
  unfold Dsts at hops
  simp (maxSteps := 1000000) (dsimp := false) (disch := omega) only [go_sem, ia_someH, hP, hops]
  refine hK1 _ _ ?_
  try clear hK1 K1
  refine SX.seq_k fun K2 hK2 => ?_
  refine SX.region_d [some 5, some 6] rfl (fun ops hops => ?_)
  unfold Dsts at hops
  simp (maxSteps := 1000000) (dsimp := false) (disch := omega) only [go_sem, ia_someH, hP, hops]
  refine SCall.mono (copyCheck_spec hP hp) ?_
  rintro v_ L_ ⟨hv_, hL_⟩
  rw [hv_, hL_]
  clear hv_ hL_ v_ L_
  try with_reducible refine stI ?_
  try simp (maxSteps := 1000000) (dsimp := false) (disch := omega) only [go_sem, ia_someH, hP, hops]
  refine hK2 _ _ ?_
  try clear hK2 K2
  refine SX.seq_k fun K3 hK3 => ?_
  refine SX.region_d [some 7, some 8, some 9, some 10, some 11, some 12, some 13, some 14, some 15, some 16, none] rfl (fun ops hops => ?_)
  unfold Dsts at hops
  simp (maxSteps := 1000000) (dsimp := false) (disch := omega) only [go_sem, ia_someH, hP, hops]
  refine ⟨_, Cell.at 0 rfl rfl, ?_⟩
  try with_reducible refine stI ?_
  try simp (maxSteps := 1000000) (dsimp := false) (disch := omega) only [go_sem, ia_someH, hP, hops]
  intro g2
  try with_reducible refine stI ?_
  try simp (maxSteps := 1000000) (dsimp := false) (disch := omega) only [go_sem, ia_someH, hP, hops]
  refine YAppend.int1 (i := 1) (hP ▸ T.elS_50) (hP ▸ T.zr_5) rfl rfl hr (by omega) (by decide) ?_
  intro v' s' hr'
  obtain ⟨A', c', rfl, hcc', _⟩ := Row.form hr'
  try with_reducible refine stI ?_
  try simp (maxSteps := 1000000) (dsimp := false) (disch := omega) only [go_sem, ia_someH, hP, hops]
  refine ⟨1, _, _, _, rfl, (by simp), .inr (by decide), ?_⟩
  try with_reducible refine stI ?_
  try simp (maxSteps := 1000000) (dsimp := false) (disch := omega) only [go_sem, ia_someH, hP, hops]
  refine hK3 _ _ ?_
  try clear hK3 K3
  refine SX.live [] (fun T1 hT1 => ?_)
  clear hT1
  refine SX.seq_k fun K4 hK4 => ?_
  refine SX.region_d [some 4] rfl (fun ops hops => ?_)
  unfold Dsts at hops
  simp (maxSteps := 1000000) (dsimp := false) (disch := omega) only [go_sem, ia_someH, hP, hops]
  refine hK4 _ _ ?_
  try clear hK4 K4
  refine SX.ret ?_
  simp only [andThen_normal, andThen_ret, andThen_exit, inBlk_normal, inBlk_ret, inBlk_exit, Nat.reduceEqDiff, if_true, if_false, ↓reduceIte, retQ_ret]
  try simp only [res0, res1, res2, res3, stK_e, go_sem, ia_someH, hP]
  exact ⟨_, _, Less.drop _ _, rfl, rfl, _, _, rfl, hr'⟩

theorem bytes_cells {bs : List Int} (h : Byte bs) : ints .u8 bs = Lib.byteCells (bs.map fun n : Int => UInt8.ofNat n.toNat) := by
  unfold ints Lib.byteCells
  rw [List.map_map]
  refine List.map_congr_left fun x hx => ?_
  show Value.int .u8 x = .int .u8 _
  rw [byte_back (h x hx)]
theorem String_spec {Γ : Ctx} (hP : Γ.P = Tryd.prog) (ho : Γ.own = []) {b : Nat} {p vb : Value} {sb : Slot} {bs : List Int} {R : Hp} (hp : Ptr b p) (hr : RowI .u8 5 vb bs sb) (hb : Byte bs) : SCall Γ 39 #[selfP b] (BD b p vb :: sb :: R) (fun v L' => v = .string (txt bs) ∧ L' = []) := fun w hi => by
  have hblk := hi.blk b _ (List.mem_cons_self ..)
  have src : ∀ g o, some (g, o) ∈ (BD b p vb :: sb :: R) → Γ.w0.heap.size ≤ g := fun g o hm => by
    rcases hi.src g o hm with h | h
    · rw [ho] at h; cases h
    · exact h
  have hBb := src b _ (List.mem_cons_self ..)
  have hrow : w.ownsRow Γ.w0.heap.size 5 1 vb (Lib.byteCells (bs.map fun n : Int => UInt8.ofNat n.toNat)).length (Lib.byteCells (bs.map fun n : Int => UInt8.ofNat n.toNat)) ∧ vb.ownBlock ≠ some b := by
    rw [← bytes_cells hb, ints_length]
    obtain ⟨hl, h⟩ := hr
    rcases h with ⟨h1, hn, h2⟩ | ⟨g, cap, junk, h1, h2, hc, hlen⟩
    · subst h1
      exact ⟨⟨hl, .inl ⟨rfl, hn⟩⟩, by simp [Value.ownBlock]⟩
    · subst h1 h2
      have hg : some (g, Obj.cells (ints .u8 bs ++ junk).toArray 5 (0, 0)) ∈ (BD b p (.slice (some ⟨g, 0, none⟩) bs.length cap) :: some (g, Obj.cells (ints .u8 bs ++ junk).toArray 5 (0, 0)) :: R) := List.mem_cons_of_mem _ (List.mem_cons_self ..)
      refine ⟨⟨hl, .inr ⟨g, cap, _, rfl, src g _ hg, hi.blk g _ hg, hc.1, hc.2, by rw [List.size_toArray]; exact hlen, ?_⟩⟩, ?_⟩
      · rw [List.take_append_of_le_length (by rw [hl]; exact Nat.le_refl _), List.take_of_length_le (by rw [hl]; exact Nat.le_refl _)]
      · intro he
        simp only [Value.ownBlock, Option.some.injEq] at he
        subst he
        have := hi.inj 0 1 _ _ _ rfl rfl
        omega
  have hB : Lib.IsBuilder 72 5 Γ.w0.heap.size b (Lib.byteCells (bs.map fun n : Int => UInt8.ofNat n.toNat)) w := by
    rcases hp with rfl | rfl
    · exact .inl ⟨hBb, vb, hblk, hrow⟩
    · exact .inr ⟨hBb, vb, hblk, hrow⟩
  rw [hP]
  refine (Tryd.Builder_String_any Γ.w0.heap.size b _ w hB hi.size).mono ?_
  rintro e w' ⟨rfl, hb'⟩
  refine ⟨_, [], rfl, ⟨fun i j b o o' h => by simp at h, fun b o h => by simp at h, fun b o h => by simp at h, hb'.os.trans hi.os, hb'.tape.trans hi.tape, hb'.output.trans hi.output, Nat.le_trans hi.size hb'.size, fun k hk hn => (hb'.block k hk).trans (hi.old k hk hn)⟩, rfl, rfl⟩
/-- What leaves nothing behind may be proved at its own first world. -/
theorem SCall.lift {Γ : Ctx} {f : FuncId} {args : Array Value} {L : Hp} {v : Value} (h : ∀ w, Inv Γ L w → SCall ⟨Γ.P, w, []⟩ f args [] (fun v' L' => v' = v ∧ L' = [])) : SCall Γ f args L (fun v' L' => v' = v ∧ L' = L) :=
  SCall.of_below fun w hi => SCall.below (h w hi)
theorem Cell.lift {Γ : Ctx} {L : Hp} {w : World} (hi : Inv Γ L w) {a : Addr} {v : Value} (h : Cell Γ L a v) : Cell ⟨Γ.P, w, []⟩ [] a v := Cell.old (by simp) (h.real hi)
/-! What is shown. -/
def bitL (b : Int) (k : Nat) : Int := if (b / 2 ^ (7 - k)) % 2 = 1 then 35 else 46
def byteL (b : Int) : List Int := (List.range 8).map (bitL b)
def rowL (r : List Int) : List Int := r.flatMap byteL
def rowsL : List (List Int) → List Int
  | [] => []
  | r :: l => rowL r ++ [10] ++ rowsL l
def showS (f : Fm) : ByteArray × Int := if mayF f = true then (txt (rowsL f.rows), 0) else (txt [], 1)
theorem rowsL_app : ∀ l m, rowsL (l ++ m) = rowsL l ++ rowsL m
  | [], m => rfl
  | r :: l, m => by rw [List.cons_append, rowsL, rowsL, rowsL_app l m]; simp
theorem rowsL_take {l : List (List Int)} {k : Nat} (h : k < l.length) : rowsL (l.take (k + 1)) = rowsL (l.take k) ++ rowL (l.getD k []) ++ [10] := by
  rw [List.take_add_one, getD_get (d := []) h, rowsL_app]
  simp [rowsL]
theorem rowL_take {r : List Int} {k : Nat} (h : k < r.length) : rowL (r.take (k + 1)) = rowL (r.take k) ++ byteL (r.getD k 0) := by
  rw [List.take_add_one, getD_get (d := 0) h, rowL, rowL, List.flatMap_append]
  simp
theorem byteL_len (b : Int) : (byteL b).length = 8 := by simp [byteL]
theorem rowL_len (r : List Int) : (rowL r).length = 8 * r.length := by
  induction r with
  | nil => rfl
  | cons b r ih => rw [rowL, List.flatMap_cons, List.length_append, byteL_len, List.length_cons]; have : (List.flatMap byteL r).length = 8 * r.length := ih; omega
theorem bitL_byte (b : Int) (k : Nat) : 0 ≤ bitL b k ∧ bitL b k ≤ 255 := by unfold bitL; split <;> omega
theorem Byte.app {l m : List Int} (h : Byte l) (k : Byte m) : Byte (l ++ m) := fun x hx => (List.mem_append.1 hx).elim (h x) (k x)
theorem byteL_byte (b : Int) : Byte (byteL b) := fun x hx => by
  obtain ⟨k, _, rfl⟩ := List.mem_map.1 hx
  exact bitL_byte b k
theorem rowL_byte (r : List Int) : Byte (rowL r) := fun x hx => by
  obtain ⟨b, _, hb⟩ := List.mem_flatMap.1 hx
  exact byteL_byte b x hb
theorem rowsL_byte : ∀ l, Byte (rowsL l)
  | [] => fun x hx => by cases hx
  | r :: l => Byte.app (Byte.app (rowL_byte r) (fun x hx => by rw [List.mem_singleton.1 hx]; omega)) (rowsL_byte l)
theorem rowsL_len {l : List (List Int)} (h : ∀ j, j < l.length → (l.getD j []).length ≤ 8) : ∀ k, k ≤ l.length → (rowsL (l.take k)).length ≤ 65 * k
  | 0, _ => by simp [rowsL]
  | k + 1, hk => by
    have h1 := rowsL_len h k (by omega)
    have h2 := h k (by omega)
    rw [rowsL_take (by omega), List.length_append, List.length_append, rowL_len]
    simp only [List.length_cons, List.length_nil]
    omega
theorem bit_all : ∀ b : Fin 256, ∀ k : Fin 8, decide (bits .and .u8 (IntKind.u8.wrap ((b.1 : Int) * 2 ^ k.1)) 128 = 0) = !decide (((b.1 : Int) / 2 ^ (7 - k.1)) % 2 = 1) := by decide +kernel
theorem bit_test {b : Int} {k : Nat} (hb : 0 ≤ b ∧ b ≤ 255) (hk : k < 8) : (bits .and .u8 (IntKind.u8.wrap (b * 2 ^ k)) 128 = 0) = ¬ ((b / 2 ^ (7 - k)) % 2 = 1) := by
  have h := bit_all ⟨b.toNat, by omega⟩ ⟨k, hk⟩
  simp only at h
  rw [show ((b.toNat : Nat) : Int) = b by omega] at h
  by_cases h1 : (b / 2 ^ (7 - k)) % 2 = 1
  · rw [decide_eq_true h1] at h
    simp only [Bool.not_true, decide_eq_false_iff_not] at h
    exact propext ⟨fun h' => absurd h' h, fun h' => absurd h1 h'⟩
  · rw [decide_eq_false h1] at h
    simp only [Bool.not_false, decide_eq_true_eq] at h
    exact propext ⟨fun _ => h1, fun _ => h⟩
theorem range_bit (b : Int) (k : Nat) : (List.range (k + 1)).map (bitL b) = (List.range k).map (bitL b) ++ [bitL b k] := by rw [List.range_succ, List.map_append]; rfl

end Go.Proofs.YtpakphgeichopaaDoor
set_option linter.unusedVariables false
set_option linter.unusedSimpArgs false
namespace Go.Proofs.YtpakphgeichopaaDoor
open Go.RowKit Go.SX Go.Proofs
open Go.SX renaming ia_someH → Φa
set_option maxHeartbeats 1000000 in
set_option maxRecDepth 100000 in
theorem ShowB_spec {Γ : Ctx} (hP : Γ.P = Tryd.prog) {L : Hp} (ho : Γ.own = []) {v : Value} {f : Fm} (hr : SlR (Cell Γ []) v f.rows) (hm : cnt f.rows ≤ 9000000000000000000) (hrl : f.rows.length ≤ 9000000000000000000) (hby : ∀ i, i < f.rows.length → ∀ j, j < (f.rows.getD i []).length → 0 ≤ (f.rows.getD i []).getD j 0 ∧ (f.rows.getD i []).getD j 0 ≤ 255) :
    SCall Γ 18 #[(.agg (f.cells v).toArray)] ([]) (fun v L' => v = .tuple #[.string (showS f).1, .int .i64 (showS f).2] ∧ L' = []) := by
  obtain ⟨A, c, rfl, hc⟩ := Sl.shape hr
  obtain ⟨a1, e1, _, hA⟩ := slR_at hr
  refine SCall.enter (n := 41) (res2 2 3) (hP ▸ Tryd.func18) rfl rfl (by simp) (res2_ok rfl) ?_
  refine SX.seq_k fun K1 hK1 => ?_
  refine SX.region_d [some 1, some 2, some 3] rfl (fun ops hops => ?_)
  unfold Dsts at hops
  simp (maxSteps:=1000000)(dsimp:=false)(disch:=omega) only [go_sem, Φa, hP, hops]
  intro b0
  try with_reducible refine stI ?_
  try simp (maxSteps:=1000000)(dsimp:=false)(disch:=omega) only [go_sem, Φa, hP, hops]
  refine hK1 _ _ ?_
  try clear hK1 K1
  refine SX.seq_k fun K2 hK2 => ?_
  refine SX.seq_k fun K3 hK3 => ?_
  refine SX.region_d [some 10, some 11, some 12] rfl (fun ops hops => ?_)
  unfold Dsts at hops
  simp (maxSteps:=1000000)(dsimp:=false)(disch:=omega) only [go_sem, Φa, hP, hops]
  refine ⟨_, Cell.at 0 rfl (show (Fm.cells _ _)[0]? = _ from rfl), _, Cell.at 0 rfl (show (Fm.cells _ _)[1]? = _ from rfl), _, Cell.at 0 rfl (show (Fm.cells _ _)[2]? = _ from rfl), ?_⟩
  try with_reducible refine stI ?_
  try simp (maxSteps:=1000000)(dsimp:=false)(disch:=omega) only [go_sem, Φa, hP, hops]
  refine SCall.mono (check_spec (f := f) hP (SlR.mono (fun a v h => Cell.any h) hr) hm hrl) ?_
  rintro v_ L_ ⟨hv_, hL_⟩
  rw [hv_, hL_]
  clear hv_ hL_ v_ L_
  try with_reducible refine stI ?_
  try simp (maxSteps:=1000000)(dsimp:=false)(disch:=omega) only [go_sem, Φa, hP, hops]
  refine hK3 _ _ ?_
  try clear hK3 K3
  refine SX.cond_k fun X4 Y4 hX4 hY4 => ?_
  simp (maxSteps:=1000000)(dsimp:=false)(disch:=omega) only [go_sem, Φa, hP, condVC]
  refine ⟨fun hc12 => hX4 ?_, fun hc12 => hY4 ?_⟩
  · clear hX4 hY4 X4 Y4
    refine SX.seq_k fun K5 hK5 => ?_
    refine SX.region_d [some 2, some 3] rfl (fun ops hops => ?_)
    unfold Dsts at hops
    simp (maxSteps:=1000000)(dsimp:=false)(disch:=omega) only [go_sem, Φa, hP, hops]
    refine hK5 _ _ ?_
    try clear hK5 K5
    refine SX.ret ?_
    simp only [andThen_normal, andThen_ret, andThen_exit, inBlk_normal, inBlk_ret, inBlk_exit, Nat.reduceEqDiff, if_true, if_false, ↓reduceIte, retQ_ret]
    try simp only [res0, res1, res2, res3, stK_e, go_sem, Φa, hP]
    refine ⟨_, _, Less.drop _ _, rfl, ?_, rfl⟩
    have h0 : mayF f = false := by simpa using hc12
    unfold showS
    rw [if_neg (by rw [h0]; exact Bool.false_ne_true)]
    rfl
  · clear hX4 hY4 X4 Y4
    refine SX.skip ?_
    try simp only [andThen_normal, andThen_ret, andThen_exit, inBlk_normal, inBlk_ret, inBlk_exit, Nat.reduceEqDiff, if_true, if_false, ↓reduceIte]
    refine hK2 _ _ ?_
    try clear hK2 K2
    refine SX.seq_k fun K6 hK6 => ?_
    have hmt : mayF f = true := by simpa using hc12
    have hmf := of_mayF hmt
    refine SX.region_d [some 4] rfl (fun ops hops => ?_)
    unfold Dsts at hops
    simp (maxSteps:=1000000)(dsimp:=false)(disch:=omega) only [go_sem, Φa, hP, hops]
    intro bb
    try with_reducible refine stI ?_
    try simp (maxSteps:=1000000)(dsimp:=false)(disch:=omega) only [go_sem, Φa, hP, hops]
    refine hK6 _ _ ?_
    try clear hK6 K6
    refine SX.seq_k fun K7 hK7 => ?_
    refine SX.seq_k fun K8 hK8 => ?_
    refine SX.less less_ins ?_
    refine SX.region_d [some 13, some 14, some 15, some 16] rfl (fun ops hops => ?_)
    unfold Dsts at hops
    simp (maxSteps:=1000000)(dsimp:=false)(disch:=omega) only [go_sem, Φa, hP, hops]
    refine ⟨_, Cell.at 2 rfl (show (Fm.cells _ _)[1]? = _ from rfl), ?_⟩
    try with_reducible refine stI ?_
    try simp (maxSteps:=1000000)(dsimp:=false)(disch:=omega) only [go_sem, Φa, hP, hops]
    refine hK8 _ _ ?_
    try clear hK8 K8
    refine SX.live [4, 14, 15, 16] (fun T1 hT1 => ?_)
    simp only [forall_mem_cons', forall_mem_nil', go_sem, Φa, hP] at hT1
    obtain ⟨h1_4, h1_14, h1_15, h1_16⟩ := hT1
    refine SX.block ?_
    refine SX.live [4, 14, 15, 16] (fun T2 hT2 => ?_)
    simp only [forall_mem_cons', forall_mem_nil', go_sem, Φa, hP, h1_4, h1_14, h1_15, h1_16] at hT2
    obtain ⟨h2_4, h2_14, h2_15, h2_16⟩ := hT2
    clear h1_4 h1_14 h1_15 h1_16 T1
    refine SX.loop_k (fun (ss : (Nat) × (Value) × (Value) × (Slot)) T L' => (fun (i : Nat) (p : Value) (vb : Value) (sb : Slot) => T 16 = .int .i64 (i : Int) ∧ T 4 = T2 4 ∧ T 14 = T2 14 ∧ T 15 = T2 15 ∧ L' = BD bb p vb :: sb :: some (b0, .cells (f.cells (.slice A f.rows.length c)).toArray 41 (0, 0)) :: [] ∧ (i ≤ f.rows.length ∧ Ptr bb p ∧ RowI .u8 5 vb (rowsL (f.rows.take i)) sb)) (ss.1) (ss.2.1) (ss.2.2.1) (ss.2.2.2)) (fun (ss : (Nat) × (Value) × (Value) × (Slot)) => (fun (i : Nat) (p : Value) (vb : Value) (sb : Slot) => f.rows.length - i) (ss.1) (ss.2.1) (ss.2.2.1) (ss.2.2.2)) (0, .pointer none, .slice none 0 0, none) ?_ ?_
    · try dsimp only
      refine ⟨?_, ?_, ?_, ?_, ?_, ?_⟩
      · first | exact h2_16 | (rw [h2_16]; rfl) | (rw [h2_16]; simp; done)
      · rfl
      · rfl
      · rfl
      · rfl
      · exact ⟨Nat.zero_le _, .inl rfl, RowI.nil _ _⟩
    · intro ss T3 L3 hI K9 hK9
      obtain ⟨i, p, vb, sb⟩ := ss
      try dsimp only at hI hK9
      simp only [h2_4, h2_14, h2_15] at hI hK9
      obtain ⟨h3_16, h3_4, h3_14, h3_15, hL3, ⟨hi, hp, hrow⟩⟩ := hI
      replace hL3 := hL3.symm
      subst hL3
      clear h2_4 h2_14 h2_15 h2_16 T2
      refine SX.seq_k fun K10 hK10 => ?_
      refine SX.region_d [some 17] rfl (fun ops hops => ?_)
      unfold Dsts at hops
      simp (maxSteps:=1000000)(dsimp:=false)(disch:=omega) only [go_sem, Φa, hP, h3_16, h3_4, h3_14, h3_15, hops]
      repeat' ((first | refine And.intro (by omega) ?_ | fail); try (with_reducible refine stI ?_); try simp (maxSteps:=1000000)(dsimp:=false)(disch:=omega) only [go_sem, Φa, hP, h3_16, h3_4, h3_14, h3_15, hops])
      refine hK10 _ _ ?_
      try clear hK10 K10
      refine SX.seq_k fun K11 hK11 => ?_
      refine SX.cond_k fun X12 Y12 hX12 hY12 => ?_
      simp (maxSteps:=1000000)(dsimp:=false)(disch:=omega) only [go_sem, Φa, hP, h3_16, h3_4, h3_14, h3_15, condVC]
      refine ⟨fun hc17 => hX12 ?_, fun hc17 => hY12 ?_⟩
      · clear hX12 hY12 X12 Y12
        refine SX.skip ?_
        try simp only [andThen_normal, andThen_ret, andThen_exit, inBlk_normal, inBlk_ret, inBlk_exit, Nat.reduceEqDiff, if_true, if_false, ↓reduceIte]
        refine hK11 _ _ ?_
        try clear hK11 K11
        refine SX.seq_k fun K13 hK13 => ?_
        refine SX.block ?_
        refine SX.seq_k fun K14 hK14 => ?_
        have hil : i < f.rows.length := by omega
        obtain ⟨Ai, ci, hci, hcil, hsi⟩ := hA i hil
        obtain ⟨a2, e2, _, hB⟩ := sl_at hsi
        have hr8 := hmf.2.2.2 i hil
        have hlr := rowsL_len hmf.2.2.2 i (by omega)
        refine SX.region_d [some 18, some 19, some 6] rfl (fun ops hops => ?_)
        unfold Dsts at hops
        simp (maxSteps:=1000000)(dsimp:=false)(disch:=omega) only [go_sem, Φa, hP, h3_16, h3_4, h3_14, h3_15, hops, ia_at e1]
        refine ⟨_, Cell.any hci, ?_⟩
        try with_reducible refine stI ?_
        try simp (maxSteps:=1000000)(dsimp:=false)(disch:=omega) only [go_sem, Φa, hP, h3_16, h3_4, h3_14, h3_15, hops, ia_at e1]
        refine hK14 _ _ ?_
        try clear hK14 K14
        refine SX.seq_k fun K15 hK15 => ?_
        refine SX.seq_k fun K16 hK16 => ?_
        refine SX.region_d [some 20, some 21, some 22] rfl (fun ops hops => ?_)
        unfold Dsts at hops
        simp (maxSteps:=1000000)(dsimp:=false)(disch:=omega) only [go_sem, Φa, hP, h3_16, h3_4, h3_14, h3_15, hops]
        repeat' ((first | refine And.intro (by omega) ?_ | fail); try (with_reducible refine stI ?_); try simp (maxSteps:=1000000)(dsimp:=false)(disch:=omega) only [go_sem, Φa, hP, h3_16, h3_4, h3_14, h3_15, hops])
        refine hK16 _ _ ?_
        try clear hK16 K16
        refine SX.block ?_
        refine SX.live [4, 14, 15, 16, 20, 21, 22] (fun T4 hT4 => ?_)
        simp only [forall_mem_cons', forall_mem_nil', go_sem, Φa, hP, h3_16, h3_4, h3_14, h3_15] at hT4
        obtain ⟨h4_4, h4_14, h4_15, h4_16, h4_20, h4_21, h4_22⟩ := hT4
        clear h3_16 h3_4 h3_14 h3_15 T3
        refine SX.loop_k (fun (ss : (Nat) × (Value) × (Value) × (Slot)) T L' => (fun (j : Nat) (p2 : Value) (vb2 : Value) (sb2 : Slot) => T 22 = .int .i64 (j : Int) ∧ T 4 = T4 4 ∧ T 14 = T4 14 ∧ T 15 = T4 15 ∧ T 16 = T4 16 ∧ T 20 = T4 20 ∧ T 21 = T4 21 ∧ L' = BD bb p2 vb2 :: sb2 :: some (b0, .cells (f.cells (.slice A f.rows.length c)).toArray 41 (0, 0)) :: [] ∧ (j ≤ (f.rows.getD i []).length ∧ Ptr bb p2 ∧ RowI .u8 5 vb2 (rowsL (f.rows.take i) ++ rowL ((f.rows.getD i []).take j)) sb2)) (ss.1) (ss.2.1) (ss.2.2.1) (ss.2.2.2)) (fun (ss : (Nat) × (Value) × (Value) × (Slot)) => (fun (j : Nat) (p2 : Value) (vb2 : Value) (sb2 : Slot) => (f.rows.getD i []).length - j) (ss.1) (ss.2.1) (ss.2.2.1) (ss.2.2.2)) (0, p, vb, sb) ?_ ?_
        · try dsimp only
          refine ⟨?_, ?_, ?_, ?_, ?_, ?_, ?_, ?_, ?_⟩
          · first | exact h4_22 | (rw [h4_22]; rfl) | (rw [h4_22]; simp; done)
          · rfl
          · rfl
          · rfl
          · rfl
          · rfl
          · rfl
          · rfl
          · refine ⟨Nat.zero_le _, hp, ?_⟩
            rw [List.take_zero]
            show RowI .u8 5 vb (_ ++ []) sb
            rw [List.append_nil]
            exact hrow
        · intro ss T5 L5 hI K17 hK17
          obtain ⟨j, p2, vb2, sb2⟩ := ss
          try dsimp only at hI hK17
          simp only [h4_4, h4_14, h4_15, h4_16, h4_20, h4_21] at hI hK17
          obtain ⟨h5_22, h5_4, h5_14, h5_15, h5_16, h5_20, h5_21, hL5, ⟨hj, hp2, hrow2⟩⟩ := hI
          replace hL5 := hL5.symm
          subst hL5
          clear h4_4 h4_14 h4_15 h4_16 h4_20 h4_21 h4_22 T4
          refine SX.seq_k fun K18 hK18 => ?_
          refine SX.region_d [some 23] rfl (fun ops hops => ?_)
          unfold Dsts at hops
          simp (maxSteps:=1000000)(dsimp:=false)(disch:=omega) only [go_sem, Φa, hP, h5_22, h5_4, h5_14, h5_15, h5_16, h5_20, h5_21, hops]
          repeat' ((first | refine And.intro (by omega) ?_ | fail); try (with_reducible refine stI ?_); try simp (maxSteps:=1000000)(dsimp:=false)(disch:=omega) only [go_sem, Φa, hP, h5_22, h5_4, h5_14, h5_15, h5_16, h5_20, h5_21, hops])
          refine hK18 _ _ ?_
          try clear hK18 K18
          refine SX.seq_k fun K19 hK19 => ?_
          refine SX.cond_k fun X20 Y20 hX20 hY20 => ?_
          simp (maxSteps:=1000000)(dsimp:=false)(disch:=omega) only [go_sem, Φa, hP, h5_22, h5_4, h5_14, h5_15, h5_16, h5_20, h5_21, condVC]
          refine ⟨fun hc23 => hX20 ?_, fun hc23 => hY20 ?_⟩
          · clear hX20 hY20 X20 Y20
            refine SX.skip ?_
            try simp only [andThen_normal, andThen_ret, andThen_exit, inBlk_normal, inBlk_ret, inBlk_exit, Nat.reduceEqDiff, if_true, if_false, ↓reduceIte]
            refine hK19 _ _ ?_
            try clear hK19 K19
            refine SX.seq_k fun K21 hK21 => ?_
            refine SX.block ?_
            refine SX.seq_k fun K22 hK22 => ?_
            have hjl : j < (f.rows.getD i []).length := by omega
            have hbj := hB j hjl
            have hbb := hby i hil j hjl
            refine SX.region_d [some 24, some 25, some 8] rfl (fun ops hops => ?_)
            unfold Dsts at hops
            simp (maxSteps:=1000000)(dsimp:=false)(disch:=omega) only [go_sem, Φa, hP, h5_22, h5_4, h5_14, h5_15, h5_16, h5_20, h5_21, hops, ia_at e2]
            refine ⟨_, Cell.any hbj, ?_⟩
            try with_reducible refine stI ?_
            try simp (maxSteps:=1000000)(dsimp:=false)(disch:=omega) only [go_sem, Φa, hP, h5_22, h5_4, h5_14, h5_15, h5_16, h5_20, h5_21, hops, ia_at e2]
            refine hK22 _ _ ?_
            try clear hK22 K22
            refine SX.seq_k fun K23 hK23 => ?_
            refine SX.region_d [some 26] rfl (fun ops hops => ?_)
            unfold Dsts at hops
            simp (maxSteps:=1000000)(dsimp:=false)(disch:=omega) only [go_sem, Φa, hP, h5_22, h5_4, h5_14, h5_15, h5_16, h5_20, h5_21, hops]
            refine hK23 _ _ ?_
            try clear hK23 K23
            refine SX.block ?_
            refine SX.live [4, 8, 14, 15, 16, 20, 21, 22, 26] (fun T6 hT6 => ?_)
            simp only [forall_mem_cons', forall_mem_nil', go_sem, Φa, hP, h5_22, h5_4, h5_14, h5_15, h5_16, h5_20, h5_21] at hT6
            obtain ⟨h6_4, h6_8, h6_14, h6_15, h6_16, h6_20, h6_21, h6_22, h6_26⟩ := hT6
            clear h5_22 h5_4 h5_14 h5_15 h5_16 h5_20 h5_21 T5
            refine SX.loop_k (fun (ss : (Nat) × (Value) × (Value) × (Slot)) T L' => (fun (k : Nat) (p3 : Value) (vb3 : Value) (sb3 : Slot) => T 26 = .int .i64 (k : Int) ∧ T 4 = T6 4 ∧ T 8 = T6 8 ∧ T 14 = T6 14 ∧ T 15 = T6 15 ∧ T 16 = T6 16 ∧ T 20 = T6 20 ∧ T 21 = T6 21 ∧ T 22 = T6 22 ∧ L' = BD bb p3 vb3 :: sb3 :: some (b0, .cells (f.cells (.slice A f.rows.length c)).toArray 41 (0, 0)) :: [] ∧ (k ≤ 8 ∧ Ptr bb p3 ∧ RowI .u8 5 vb3 (rowsL (f.rows.take i) ++ rowL ((f.rows.getD i []).take j) ++ (List.range k).map (bitL ((f.rows.getD i []).getD j 0))) sb3)) (ss.1) (ss.2.1) (ss.2.2.1) (ss.2.2.2)) (fun (ss : (Nat) × (Value) × (Value) × (Slot)) => (fun (k : Nat) (p3 : Value) (vb3 : Value) (sb3 : Slot) => 8 - k) (ss.1) (ss.2.1) (ss.2.2.1) (ss.2.2.2)) (0, p2, vb2, sb2) ?_ ?_
            · try dsimp only
              refine ⟨?_, ?_, ?_, ?_, ?_, ?_, ?_, ?_, ?_, ?_, ?_⟩
              · first | exact h6_26 | (rw [h6_26]; rfl) | (rw [h6_26]; simp; done)
              · rfl
              · rfl
              · rfl
              · rfl
              · rfl
              · rfl
              · rfl
              · rfl
              · rfl
              · refine ⟨Nat.zero_le _, hp2, ?_⟩
                rw [List.range_zero, List.map_nil, List.append_nil]
                exact hrow2
            · intro ss T7 L7 hI K24 hK24
              obtain ⟨k, p3, vb3, sb3⟩ := ss
              try dsimp only at hI hK24
              simp only [h6_4, h6_8, h6_14, h6_15, h6_16, h6_20, h6_21, h6_22] at hI hK24
              obtain ⟨h7_26, h7_4, h7_8, h7_14, h7_15, h7_16, h7_20, h7_21, h7_22, hL7, ⟨hk, hp3, hrow3⟩⟩ := hI
              replace hL7 := hL7.symm
              subst hL7
              clear h6_4 h6_8 h6_14 h6_15 h6_16 h6_20 h6_21 h6_22 h6_26 T6
              refine SX.seq_k fun K25 hK25 => ?_
              refine SX.region_d [some 27] rfl (fun ops hops => ?_)
              unfold Dsts at hops
              simp (maxSteps:=1000000)(dsimp:=false)(disch:=omega) only [go_sem, Φa, hP, h7_26, h7_4, h7_8, h7_14, h7_15, h7_16, h7_20, h7_21, h7_22, hops]
              repeat' ((first | refine And.intro (by omega) ?_ | fail); try (with_reducible refine stI ?_); try simp (maxSteps:=1000000)(dsimp:=false)(disch:=omega) only [go_sem, Φa, hP, h7_26, h7_4, h7_8, h7_14, h7_15, h7_16, h7_20, h7_21, h7_22, hops])
              refine hK25 _ _ ?_
              try clear hK25 K25
              refine SX.seq_k fun K26 hK26 => ?_
              refine SX.cond_k fun X27 Y27 hX27 hY27 => ?_
              simp (maxSteps:=1000000)(dsimp:=false)(disch:=omega) only [go_sem, Φa, hP, h7_26, h7_4, h7_8, h7_14, h7_15, h7_16, h7_20, h7_21, h7_22, condVC]
              refine ⟨fun hc27 => hX27 ?_, fun hc27 => hY27 ?_⟩
              · clear hX27 hY27 X27 Y27
                refine SX.skip ?_
                try simp only [andThen_normal, andThen_ret, andThen_exit, inBlk_normal, inBlk_ret, inBlk_exit, Nat.reduceEqDiff, if_true, if_false, ↓reduceIte]
                refine hK26 _ _ ?_
                try clear hK26 K26
                refine SX.seq_k fun K28 hK28 => ?_
                refine SX.block ?_
                refine SX.seq_k fun K29 hK29 => ?_
                refine SX.region_d [some 28, some 9] rfl (fun ops hops => ?_)
                unfold Dsts at hops
                simp (maxSteps:=1000000)(dsimp:=false)(disch:=omega) only [go_sem, Φa, hP, h7_26, h7_4, h7_8, h7_14, h7_15, h7_16, h7_20, h7_21, h7_22, hops]
                refine hK29 _ _ ?_
                try clear hK29 K29
                refine SX.seq_k fun K30 hK30 => ?_
                have hk8 : k < 8 := by omega
                have hmin : min k 8 = k := by omega
                refine SX.region_d [some 29, some 30, some 31, some 32, some 33] rfl (fun ops hops => ?_)
                unfold Dsts at hops
                simp (maxSteps:=1000000)(dsimp:=false)(disch:=omega) only [go_sem, Φa, hP, h7_26, h7_4, h7_8, h7_14, h7_15, h7_16, h7_20, h7_21, h7_22, hops, hmin, bit_test hbb hk8]
                repeat' ((first | refine And.intro (by omega) ?_ | fail); try (with_reducible refine stI ?_); try simp (maxSteps:=1000000)(dsimp:=false)(disch:=omega) only [go_sem, Φa, hP, h7_26, h7_4, h7_8, h7_14, h7_15, h7_16, h7_20, h7_21, h7_22, hops, hmin, bit_test hbb hk8])
                refine hK30 _ _ ?_
                try clear hK30 K30
                refine SX.cond_k fun X31 Y31 hX31 hY31 => ?_
                simp (maxSteps:=1000000)(dsimp:=false)(disch:=omega) only [go_sem, Φa, hP, h7_26, h7_4, h7_8, h7_14, h7_15, h7_16, h7_20, h7_21, h7_22, condVC]
                refine ⟨fun hc33 => hX31 ?_, fun hc33 => hY31 ?_⟩
                · clear hX31 hY31 X31 Y31
                  refine SX.region_d [some 34] rfl (fun ops hops => ?_)
                  unfold Dsts at hops
                  simp (maxSteps:=1000000)(dsimp:=false)(disch:=omega) only [go_sem, Φa, hP, h7_26, h7_4, h7_8, h7_14, h7_15, h7_16, h7_20, h7_21, h7_22, hops]
                  refine SCall.mono (WriteByte_spec hP hp3 hrow3 (by simp only [List.length_append, rowL_len, List.length_map, List.length_range, List.length_take]; omega)) ?_
                  rintro v_ L_ ⟨rfl, vb', sb', rfl, hrow'⟩
                  try with_reducible refine stI ?_
                  try simp (maxSteps:=1000000)(dsimp:=false)(disch:=omega) only [go_sem, Φa, hP, h7_26, h7_4, h7_8, h7_14, h7_15, h7_16, h7_20, h7_21, h7_22, hops]
                  refine hK28 _ _ ?_
                  try clear hK28 K28
                  refine SX.live [4, 8, 14, 15, 16, 20, 21, 22, 26] (fun T8 hT8 => ?_)
                  simp only [forall_mem_cons', forall_mem_nil', go_sem, Φa, hP, h7_26, h7_4, h7_8, h7_14, h7_15, h7_16, h7_20, h7_21, h7_22] at hT8
                  obtain ⟨h8_4, h8_8, h8_14, h8_15, h8_16, h8_20, h8_21, h8_22, h8_26⟩ := hT8
                  clear h7_26 h7_4 h7_8 h7_14 h7_15 h7_16 h7_20 h7_21 h7_22 T7
                  refine SX.region_d [some 36, some 26] rfl (fun ops hops => ?_)
                  unfold Dsts at hops
                  simp (maxSteps:=1000000)(dsimp:=false)(disch:=omega) only [go_sem, Φa, hP, h8_4, h8_8, h8_14, h8_15, h8_16, h8_20, h8_21, h8_22, h8_26, hops]
                  repeat' ((first | refine And.intro (by omega) ?_ | fail); try (with_reducible refine stI ?_); try simp (maxSteps:=1000000)(dsimp:=false)(disch:=omega) only [go_sem, Φa, hP, h8_4, h8_8, h8_14, h8_15, h8_16, h8_20, h8_21, h8_22, h8_26, hops])
                  refine hK24 (k + 1, selfP bb, vb', sb') _ (BD bb (selfP bb) vb' :: sb' :: some (b0, .cells (f.cells (.slice A f.rows.length c)).toArray 41 (0, 0)) :: []) _ (by first | exact Less.refl _ | exact Less.drop _ _ | exact Less.drops (Less.drop _ _) | exact Less.drops (Less.drops (Less.drop _ _)) | exact Less.drops (Less.drops (Less.drops (Less.drop _ _))) | exact Less.drops (Less.drops (Less.drops (Less.drops (Less.drop _ _))))) ?_ ?_
                  · try dsimp only
                    refine ⟨?_, ?_, ?_, ?_, ?_, ?_, ?_, ?_, ?_, ?_, ?_⟩
                    · simp (maxSteps:=1000000)(dsimp:=false)(disch:=omega) only [go_sem, Φa, hP, h8_4, h8_8, h8_14, h8_15, h8_16, h8_20, h8_21, h8_22, h8_26]
                      first | done | rfl | skip
                    · simp (maxSteps:=1000000)(dsimp:=false)(disch:=omega) only [go_sem, Φa, hP, h8_4, h8_8, h8_14, h8_15, h8_16, h8_20, h8_21, h8_22, h8_26]
                    · simp (maxSteps:=1000000)(dsimp:=false)(disch:=omega) only [go_sem, Φa, hP, h8_4, h8_8, h8_14, h8_15, h8_16, h8_20, h8_21, h8_22, h8_26]
                    · simp (maxSteps:=1000000)(dsimp:=false)(disch:=omega) only [go_sem, Φa, hP, h8_4, h8_8, h8_14, h8_15, h8_16, h8_20, h8_21, h8_22, h8_26]
                    · simp (maxSteps:=1000000)(dsimp:=false)(disch:=omega) only [go_sem, Φa, hP, h8_4, h8_8, h8_14, h8_15, h8_16, h8_20, h8_21, h8_22, h8_26]
                    · simp (maxSteps:=1000000)(dsimp:=false)(disch:=omega) only [go_sem, Φa, hP, h8_4, h8_8, h8_14, h8_15, h8_16, h8_20, h8_21, h8_22, h8_26]
                    · simp (maxSteps:=1000000)(dsimp:=false)(disch:=omega) only [go_sem, Φa, hP, h8_4, h8_8, h8_14, h8_15, h8_16, h8_20, h8_21, h8_22, h8_26]
                    · simp (maxSteps:=1000000)(dsimp:=false)(disch:=omega) only [go_sem, Φa, hP, h8_4, h8_8, h8_14, h8_15, h8_16, h8_20, h8_21, h8_22, h8_26]
                    · simp (maxSteps:=1000000)(dsimp:=false)(disch:=omega) only [go_sem, Φa, hP, h8_4, h8_8, h8_14, h8_15, h8_16, h8_20, h8_21, h8_22, h8_26]
                    · rfl
                    · refine ⟨by omega, .inr rfl, ?_⟩
                      rw [range_bit, ← List.append_assoc, show bitL ((f.rows.getD i []).getD j 0) k = 35 from if_pos (by simpa using hc33)]
                      exact hrow'
                  · (try dsimp only); omega
                · clear hX31 hY31 X31 Y31
                  refine SX.region_d [some 35] rfl (fun ops hops => ?_)
                  unfold Dsts at hops
                  simp (maxSteps:=1000000)(dsimp:=false)(disch:=omega) only [go_sem, Φa, hP, h7_26, h7_4, h7_8, h7_14, h7_15, h7_16, h7_20, h7_21, h7_22, hops]
                  refine SCall.mono (WriteByte_spec hP hp3 hrow3 (by simp only [List.length_append, rowL_len, List.length_map, List.length_range, List.length_take]; omega)) ?_
                  rintro v_ L_ ⟨rfl, vb', sb', rfl, hrow'⟩
                  try with_reducible refine stI ?_
                  try simp (maxSteps:=1000000)(dsimp:=false)(disch:=omega) only [go_sem, Φa, hP, h7_26, h7_4, h7_8, h7_14, h7_15, h7_16, h7_20, h7_21, h7_22, hops]
                  refine hK28 _ _ ?_
                  try clear hK28 K28
                  refine SX.live [4, 8, 14, 15, 16, 20, 21, 22, 26] (fun T9 hT9 => ?_)
                  simp only [forall_mem_cons', forall_mem_nil', go_sem, Φa, hP, h7_26, h7_4, h7_8, h7_14, h7_15, h7_16, h7_20, h7_21, h7_22] at hT9
                  obtain ⟨h9_4, h9_8, h9_14, h9_15, h9_16, h9_20, h9_21, h9_22, h9_26⟩ := hT9
                  clear h7_26 h7_4 h7_8 h7_14 h7_15 h7_16 h7_20 h7_21 h7_22 T7
                  refine SX.region_d [some 36, some 26] rfl (fun ops hops => ?_)
                  unfold Dsts at hops
                  simp (maxSteps:=1000000)(dsimp:=false)(disch:=omega) only [go_sem, Φa, hP, h9_4, h9_8, h9_14, h9_15, h9_16, h9_20, h9_21, h9_22, h9_26, hops]
                  repeat' ((first | refine And.intro (by omega) ?_ | fail); try (with_reducible refine stI ?_); try simp (maxSteps:=1000000)(dsimp:=false)(disch:=omega) only [go_sem, Φa, hP, h9_4, h9_8, h9_14, h9_15, h9_16, h9_20, h9_21, h9_22, h9_26, hops])
                  refine hK24 (k + 1, selfP bb, vb', sb') _ (BD bb (selfP bb) vb' :: sb' :: some (b0, .cells (f.cells (.slice A f.rows.length c)).toArray 41 (0, 0)) :: []) _ (by first | exact Less.refl _ | exact Less.drop _ _ | exact Less.drops (Less.drop _ _) | exact Less.drops (Less.drops (Less.drop _ _)) | exact Less.drops (Less.drops (Less.drops (Less.drop _ _))) | exact Less.drops (Less.drops (Less.drops (Less.drops (Less.drop _ _))))) ?_ ?_
                  · try dsimp only
                    refine ⟨?_, ?_, ?_, ?_, ?_, ?_, ?_, ?_, ?_, ?_, ?_⟩
                    · simp (maxSteps:=1000000)(dsimp:=false)(disch:=omega) only [go_sem, Φa, hP, h9_4, h9_8, h9_14, h9_15, h9_16, h9_20, h9_21, h9_22, h9_26]
                      first | done | rfl | skip
                    · simp (maxSteps:=1000000)(dsimp:=false)(disch:=omega) only [go_sem, Φa, hP, h9_4, h9_8, h9_14, h9_15, h9_16, h9_20, h9_21, h9_22, h9_26]
                    · simp (maxSteps:=1000000)(dsimp:=false)(disch:=omega) only [go_sem, Φa, hP, h9_4, h9_8, h9_14, h9_15, h9_16, h9_20, h9_21, h9_22, h9_26]
                    · simp (maxSteps:=1000000)(dsimp:=false)(disch:=omega) only [go_sem, Φa, hP, h9_4, h9_8, h9_14, h9_15, h9_16, h9_20, h9_21, h9_22, h9_26]
                    · simp (maxSteps:=1000000)(dsimp:=false)(disch:=omega) only [go_sem, Φa, hP, h9_4, h9_8, h9_14, h9_15, h9_16, h9_20, h9_21, h9_22, h9_26]
                    · simp (maxSteps:=1000000)(dsimp:=false)(disch:=omega) only [go_sem, Φa, hP, h9_4, h9_8, h9_14, h9_15, h9_16, h9_20, h9_21, h9_22, h9_26]
                    · simp (maxSteps:=1000000)(dsimp:=false)(disch:=omega) only [go_sem, Φa, hP, h9_4, h9_8, h9_14, h9_15, h9_16, h9_20, h9_21, h9_22, h9_26]
                    · simp (maxSteps:=1000000)(dsimp:=false)(disch:=omega) only [go_sem, Φa, hP, h9_4, h9_8, h9_14, h9_15, h9_16, h9_20, h9_21, h9_22, h9_26]
                    · simp (maxSteps:=1000000)(dsimp:=false)(disch:=omega) only [go_sem, Φa, hP, h9_4, h9_8, h9_14, h9_15, h9_16, h9_20, h9_21, h9_22, h9_26]
                    · rfl
                    · refine ⟨by omega, .inr rfl, ?_⟩
                      rw [range_bit, ← List.append_assoc, show bitL ((f.rows.getD i []).getD j 0) k = 46 from if_neg (by simpa using hc33)]
                      exact hrow'
                  · (try dsimp only); omega
              · clear hX27 hY27 X27 Y27
                refine SX.exit ?_
                try simp only [andThen_normal, andThen_ret, andThen_exit, inBlk_normal, inBlk_ret, inBlk_exit, Nat.reduceEqDiff, if_true, if_false, ↓reduceIte]
                refine hK21 _ _ ?_
                try clear hK21 K21
                refine SX.region_d [some 37, some 22] rfl (fun ops hops => ?_)
                unfold Dsts at hops
                simp (maxSteps:=1000000)(dsimp:=false)(disch:=omega) only [go_sem, Φa, hP, h7_26, h7_4, h7_8, h7_14, h7_15, h7_16, h7_20, h7_21, h7_22, hops]
                repeat' ((first | refine And.intro (by omega) ?_ | fail); try (with_reducible refine stI ?_); try simp (maxSteps:=1000000)(dsimp:=false)(disch:=omega) only [go_sem, Φa, hP, h7_26, h7_4, h7_8, h7_14, h7_15, h7_16, h7_20, h7_21, h7_22, hops])
                refine hK17 (j + 1, p3, vb3, sb3) _ (BD bb p3 vb3 :: sb3 :: some (b0, .cells (f.cells (.slice A f.rows.length c)).toArray 41 (0, 0)) :: []) _ (by first | exact Less.refl _ | exact Less.drop _ _ | exact Less.drops (Less.drop _ _) | exact Less.drops (Less.drops (Less.drop _ _)) | exact Less.drops (Less.drops (Less.drops (Less.drop _ _))) | exact Less.drops (Less.drops (Less.drops (Less.drops (Less.drop _ _))))) ?_ ?_
                · try dsimp only
                  refine ⟨?_, ?_, ?_, ?_, ?_, ?_, ?_, ?_, ?_⟩
                  · simp (maxSteps:=1000000)(dsimp:=false)(disch:=omega) only [go_sem, Φa, hP, h7_26, h7_4, h7_8, h7_14, h7_15, h7_16, h7_20, h7_21, h7_22]
                    first | done | rfl | skip
                  · simp (maxSteps:=1000000)(dsimp:=false)(disch:=omega) only [go_sem, Φa, hP, h7_26, h7_4, h7_8, h7_14, h7_15, h7_16, h7_20, h7_21, h7_22]
                  · simp (maxSteps:=1000000)(dsimp:=false)(disch:=omega) only [go_sem, Φa, hP, h7_26, h7_4, h7_8, h7_14, h7_15, h7_16, h7_20, h7_21, h7_22]
                  · simp (maxSteps:=1000000)(dsimp:=false)(disch:=omega) only [go_sem, Φa, hP, h7_26, h7_4, h7_8, h7_14, h7_15, h7_16, h7_20, h7_21, h7_22]
                  · simp (maxSteps:=1000000)(dsimp:=false)(disch:=omega) only [go_sem, Φa, hP, h7_26, h7_4, h7_8, h7_14, h7_15, h7_16, h7_20, h7_21, h7_22]
                  · simp (maxSteps:=1000000)(dsimp:=false)(disch:=omega) only [go_sem, Φa, hP, h7_26, h7_4, h7_8, h7_14, h7_15, h7_16, h7_20, h7_21, h7_22]
                  · simp (maxSteps:=1000000)(dsimp:=false)(disch:=omega) only [go_sem, Φa, hP, h7_26, h7_4, h7_8, h7_14, h7_15, h7_16, h7_20, h7_21, h7_22]
                  · rfl
                  · refine ⟨by omega, hp3, ?_⟩
                    obtain rfl : k = 8 := by omega
                    rw [rowL_take hjl, ← List.append_assoc]
                    exact hrow3
                · (try dsimp only); omega
          · clear hX20 hY20 X20 Y20
            refine SX.exit ?_
            try simp only [andThen_normal, andThen_ret, andThen_exit, inBlk_normal, inBlk_ret, inBlk_exit, Nat.reduceEqDiff, if_true, if_false, ↓reduceIte]
            refine hK15 _ _ ?_
            try clear hK15 K15
            refine SX.region_d [some 38] rfl (fun ops hops => ?_)
            unfold Dsts at hops
            simp (maxSteps:=1000000)(dsimp:=false)(disch:=omega) only [go_sem, Φa, hP, h5_22, h5_4, h5_14, h5_15, h5_16, h5_20, h5_21, hops]
            refine SCall.mono (WriteByte_spec hP hp2 hrow2 (by simp only [List.length_append, rowL_len, List.length_map, List.length_range, List.length_take]; omega)) ?_
            rintro v_ L_ ⟨rfl, vb', sb', rfl, hrow'⟩
            try with_reducible refine stI ?_
            try simp (maxSteps:=1000000)(dsimp:=false)(disch:=omega) only [go_sem, Φa, hP, h5_22, h5_4, h5_14, h5_15, h5_16, h5_20, h5_21, hops]
            refine hK13 _ _ ?_
            try clear hK13 K13
            refine SX.region_d [some 39, some 16] rfl (fun ops hops => ?_)
            unfold Dsts at hops
            simp (maxSteps:=1000000)(dsimp:=false)(disch:=omega) only [go_sem, Φa, hP, h5_22, h5_4, h5_14, h5_15, h5_16, h5_20, h5_21, hops]
            repeat' ((first | refine And.intro (by omega) ?_ | fail); try (with_reducible refine stI ?_); try simp (maxSteps:=1000000)(dsimp:=false)(disch:=omega) only [go_sem, Φa, hP, h5_22, h5_4, h5_14, h5_15, h5_16, h5_20, h5_21, hops])
            refine hK9 (i + 1, selfP bb, vb', sb') _ (BD bb (selfP bb) vb' :: sb' :: some (b0, .cells (f.cells (.slice A f.rows.length c)).toArray 41 (0, 0)) :: []) _ (by first | exact Less.refl _ | exact Less.drop _ _ | exact Less.drops (Less.drop _ _) | exact Less.drops (Less.drops (Less.drop _ _)) | exact Less.drops (Less.drops (Less.drops (Less.drop _ _))) | exact Less.drops (Less.drops (Less.drops (Less.drops (Less.drop _ _))))) ?_ ?_
            · try dsimp only
              refine ⟨?_, ?_, ?_, ?_, ?_, ?_⟩
              · simp (maxSteps:=1000000)(dsimp:=false)(disch:=omega) only [go_sem, Φa, hP, h5_22, h5_4, h5_14, h5_15, h5_16, h5_20, h5_21]
                first | done | rfl | skip
              · simp (maxSteps:=1000000)(dsimp:=false)(disch:=omega) only [go_sem, Φa, hP, h5_22, h5_4, h5_14, h5_15, h5_16, h5_20, h5_21]
              · simp (maxSteps:=1000000)(dsimp:=false)(disch:=omega) only [go_sem, Φa, hP, h5_22, h5_4, h5_14, h5_15, h5_16, h5_20, h5_21]
              · simp (maxSteps:=1000000)(dsimp:=false)(disch:=omega) only [go_sem, Φa, hP, h5_22, h5_4, h5_14, h5_15, h5_16, h5_20, h5_21]
              · rfl
              · refine ⟨by omega, .inr rfl, ?_⟩
                rw [rowsL_take hil]
                obtain rfl : j = (f.rows.getD i []).length := by omega
                rw [List.take_of_length_le (Nat.le_refl _)] at hrow'
                exact hrow'
            · (try dsimp only); omega
      · clear hX12 hY12 X12 Y12
        refine SX.exit ?_
        try simp only [andThen_normal, andThen_ret, andThen_exit, inBlk_normal, inBlk_ret, inBlk_exit, Nat.reduceEqDiff, if_true, if_false, ↓reduceIte]
        refine hK7 _ _ ?_
        try clear hK7 K7
        refine SX.seq_k fun K32 hK32 => ?_
        refine SX.region_d [some 40, some 2, some 3] rfl (fun ops hops => ?_)
        unfold Dsts at hops
        simp (maxSteps:=1000000)(dsimp:=false)(disch:=omega) only [go_sem, Φa, hP, h3_16, h3_4, h3_14, h3_15, hops]
        obtain rfl : i = f.rows.length := by omega
        rw [List.take_length] at hrow
        refine SCall.mono (String_spec hP ho hp hrow (rowsL_byte _)) ?_
        rintro v_ L_ ⟨hv_, hL_⟩
        rw [hv_, hL_]
        clear hv_ hL_ v_ L_
        try with_reducible refine stI ?_
        try simp (maxSteps:=1000000)(dsimp:=false)(disch:=omega) only [go_sem, Φa, hP, h3_16, h3_4, h3_14, h3_15, hops]
        refine hK32 _ _ ?_
        try clear hK32 K32
        refine SX.ret ?_
        simp only [andThen_normal, andThen_ret, andThen_exit, inBlk_normal, inBlk_ret, inBlk_exit, Nat.reduceEqDiff, if_true, if_false, ↓reduceIte, retQ_ret]
        try simp only [res0, res1, res2, res3, stK_e, go_sem, Φa, hP, h3_16, h3_4, h3_14, h3_15]
        refine ⟨_, _, Less.refl _, rfl, ?_, rfl⟩
        unfold showS
        rw [if_pos hmt]

end Go.Proofs.YtpakphgeichopaaDoor
set_option linter.unusedVariables false
set_option linter.unusedSimpArgs false
namespace Go.Proofs.YtpakphgeichopaaDoor
open Go.RowKit Go.SX Go.Proofs

end Go.Proofs.YtpakphgeichopaaDoor
set_option linter.unusedVariables false
set_option linter.unusedSimpArgs false
namespace Go.Proofs.YtpakphgeichopaaDoor
open Go.RowKit Go.SX Go.Proofs
theorem Show_spec {Γ : Ctx} (hP : Γ.P = Tryd.prog) {L : Hp} {v : Value} {f : Fm} (hr : SlR (Cell Γ L) v f.rows) (hm : cnt f.rows ≤ 9000000000000000000) (hrl : f.rows.length ≤ 9000000000000000000) (hby : ∀ i, i < f.rows.length → ∀ j, j < (f.rows.getD i []).length → 0 ≤ (f.rows.getD i []).getD j 0 ∧ (f.rows.getD i []).getD j 0 ≤ 255) :
    SCall Γ 18 #[(.agg (f.cells v).toArray)] L (fun v L' => v = .tuple #[.string (showS f).1, .int .i64 (showS f).2] ∧ L' = L) :=
  SCall.lift fun w hi => ShowB_spec (Γ := ⟨Γ.P, w, []⟩) (L := []) hP rfl (SlR.mono (fun a v h => Cell.lift hi h) hr) hm hrl hby

end Go.Proofs.YtpakphgeichopaaDoor
set_option linter.unusedVariables false
set_option linter.unusedSimpArgs false
namespace Go.Proofs.YtpakphgeichopaaDoor
open Go.RowKit Go.SX Go.Proofs

theorem less_mid1 {a b : Slot} {L : Hp} : Less (a :: b :: L) (a :: L) := Less.sublist (.cons_cons _ (.cons _ (List.Sublist.refl _)))
theorem zerosV_flat {α : Type} (f : α → List Value) (x : α) (n : Nat) : zerosV (f x) n = (List.replicate n x).flatMap f := by
  unfold zerosV
  induction n with
  | zero => rfl
  | succ n ih => rw [List.replicate_succ, List.flatten_cons, ih, List.replicate_succ, List.flatMap_cons]
theorem Sl.take {α : Type} {sz : Nat} {R : (Addr → Value → Prop) → Addr → α → Prop} {C : Addr → Value → Prop} {A : Option Addr} {n c k : Nat} {xs : List α} (h : Sl sz R C (.slice A n c) xs) (hk : k ≤ n) : Sl sz R C (.slice A k c) (xs.take k) := by
  obtain ⟨A', c', he, hc, hA⟩ := h
  injection he with e1 e2 e3
  subst e1 e2 e3
  refine ⟨A, c, by rw [List.length_take, Nat.min_eq_left hk], by rw [List.length_take]; omega, fun j x hj => ?_⟩
  rw [List.getElem?_take] at hj
  split at hj
  · exact hA j x hj
  · cases hj
theorem cutA0 (b : Option Addr) (sz m : Nat) : cutA b sz m 0 = b := by
  unfold cutA
  split
  · rfl
  · cases b <;> simp [Addr.add_zero']
/-! A trace in which nothing is asked. -/
def pos (p : Nat) : Ras := ((p / 14 : Nat), (p % 14 : Nat), false, 0)
theorem pos_ok {p : Nat} (h : p < 3668) : okR (pos p) = true := by
  show okB ((p / 14 : Nat) : Int) ((p % 14 : Nat) : Int) 0 = true
  exact okB_of (by omega)
theorem idle_step {l c : Int} (h : okB l c 0 = true) : rasN (l, c, false, 0) default = if c + 1 = 14 then (if l + 1 = 262 then 0 else l + 1, 0, false, 0) else (l, c + 1, false, 0) := by
  show step l c false 0 0 0 false false 0 = _
  unfold step
  rw [if_pos ⟨h, by decide⟩]
  simp [tB, wB, onB]
theorem pos_step {p : Nat} (h : p < 3668) : rasN (pos p) default = if p + 1 = 3668 then pos 0 else pos (p + 1) := by
  have hs := idle_step (l := ((p / 14 : Nat) : Int)) (c := ((p % 14 : Nat) : Int)) (pos_ok h)
  have hp : rasN (pos p) default = _ := hs
  rw [hp]
  by_cases h1 : p % 14 = 13
  · rw [if_pos (by omega)]
    by_cases h2 : p + 1 = 3668
    · rw [if_pos h2, if_pos (by omega)]; rfl
    · rw [if_neg h2, if_neg (by omega)]
      have e1 : (p + 1) / 14 = p / 14 + 1 := by omega
      have e2 : (p + 1) % 14 = 0 := by omega
      unfold pos
      rw [e1, e2]; rfl
  · rw [if_neg (by omega), if_neg (by omega)]
    have e1 : (p + 1) / 14 = p / 14 := by omega
    have e2 : (p + 1) % 14 = p % 14 + 1 := by omega
    unfold pos
    rw [e1, e2]; simp
theorem pos_atZ {p : Nat} : atZ (pos p) = decide (p = 0) := by
  unfold atZ pos
  simp only
  rw [Bool.eq_iff_iff]
  simp only [Bool.and_eq_true, decide_eq_true_eq]
  omega
theorem rep_getD_default {α : Type} [Inhabited α] (n k : Nat) : (List.replicate n (default : α)).getD k default = default := by
  rw [List.getD_eq_getElem?_getD, List.getElem?_replicate]
  split <;> rfl
theorem took_none {p : Nat} {rows : List (List Int)} : tookN (pos p) default rows = rows := by
  unfold tookN
  rw [if_neg (by simp [takesN, tB, wB, pos])]
theorem still_at {n : Nat} : ∀ k, k + 1 < 3668 → stAt (pos 0) (List.replicate n default) (k + 1) = ⟨pos (k + 1), some (0, List.replicate 128 []), []⟩
  | 0, _ => by
    rw [stAt, rep_getD_default]
    show stF ⟨pos 0, none, []⟩ _ _ = _
    have hs := pos_step (p := 0) (by decide)
    rw [if_neg (by decide)] at hs
    rw [stF_go (a := 0) (rows := List.replicate 128 []) rfl (by rw [hs, pos_atZ]; rfl), took_none, hs]
  | k + 1, hk => by
    have hs := pos_step (p := k + 1) (by omega)
    rw [if_neg (by omega)] at hs
    rw [stAt, rep_getD_default, still_at k (by omega), stF_go (a := 0) (rows := List.replicate 128 []) (by unfold begunN; rw [if_neg (by rw [pos_atZ]; simp)]) (by rw [hs, pos_atZ]; simp), took_none, hs]
theorem zChk {n : Nat} (h : n ≤ 4194304) : chkL (List.replicate n default) = 0 := chkL_good (by rw [List.length_replicate]; omega) fun j hj => by rw [rep_getD_default]; rfl
theorem ofP_short : ofP (pos 0) (List.replicate 3667 default) = ([], 0) := by
  rw [ofP_ok (pos_ok (by decide)) (zChk (by decide)), List.length_replicate, still_at 3666 (by decide)]
theorem ofP_one : ofP (pos 0) (List.replicate 3668 default) = ([⟨0, List.replicate 128 [], true⟩], 0) := by
  rw [ofP_ok (pos_ok (by decide)) (zChk (by decide)), List.length_replicate, stAt, rep_getD_default, still_at 3666 (by decide)]
  have hs := pos_step (p := 3667) (by decide)
  rw [if_pos rfl] at hs
  rw [stF_fin (a := 0) (rows := List.replicate 128 []) (by unfold begunN; rw [if_neg (by rw [pos_atZ]; simp)]) (by rw [hs, pos_atZ]; rfl), took_none]
  simp only [List.nil_append, shortB, cnt_rep]
  rfl
/-! The frame of one byte. -/
def oneF : Fm := ⟨0, [129] :: List.replicate 127 [], true⟩
theorem oneF_sl {Γ : Ctx} {L : Hp} {g h c : Nat} (hg : some (g, Obj.cells ((List.replicate 128 (Value.slice none 0 0)).set 0 (.slice (some ⟨h, 0, none⟩) 1 c)).toArray 50 (0, 0)) ∈ L) (hh : some (h, Obj.cells [Value.int .u8 129].toArray 5 (0, 0)) ∈ L) (hc : 1 ≤ c) : SlR (Cell Γ L) (.slice (some ⟨g, 0, none⟩) 128 128) oneF.rows := by
  obtain ⟨i, hi⟩ := List.mem_iff_getElem?.1 hg
  obtain ⟨i2, hi2⟩ := List.mem_iff_getElem?.1 hh
  have hl128 : oneF.rows.length = 128 := by rw [oneF]; simp only [List.length_cons, List.length_replicate]
  refine ⟨_, 128, by rw [hl128], by rw [hl128]; exact Nat.le_refl _, fun j r hj => ⟨_, rfl, ?_⟩⟩
  have hjl : j < 128 := by have := (List.getElem?_eq_some_iff.1 hj).1; omega
  rw [Nat.mul_one, Addr.add_lit, Nat.zero_add]
  cases j with
  | zero =>
    simp only [oneF, List.getElem?_cons_zero, Option.some.injEq] at hj
    subst hj
    exact ⟨_, Cell.at i hi rfl, SlI.own (xs := [129]) i2 hi2 rfl hc⟩
  | succ j =>
    simp only [oneF, List.getElem?_cons_succ] at hj
    rw [List.getElem?_replicate] at hj
    split at hj
    · cases hj
      refine ⟨.slice none 0 0, Cell.at i hi ?_, ⟨none, 0, rfl, Nat.le_refl _, fun j x hj => by simp at hj⟩⟩
      rw [List.getElem?_set, if_neg (by omega), List.getElem?_replicate, if_pos hjl]
    · cases hj
theorem oneF_may : mayF oneF = true := by decide +kernel
theorem oneF_len : (txt (rowsL oneF.rows)).size = 136 := by decide +kernel
theorem oneF_head : (txt (rowsL oneF.rows)).extract 0 9 = ⟨#[35, 46, 46, 46, 46, 46, 46, 35, 10]⟩ := by decide +kernel
theorem oneF_show : showS oneF = (txt (rowsL oneF.rows), 0) := if_pos oneF_may
set_option maxHeartbeats 1000000 in
set_option maxRecDepth 100000 in
theorem empty_spec {Γ : Ctx} (hP : Γ.P = Tryd.prog) {L : Hp} {h n c : Nat} :
    SCall Γ 26 #[(.slice (some ⟨h, 0, none⟩) n c)] L (fun v L' => ∃ g, v = .agg #[.int .i64 0, .slice (some ⟨g, 0, none⟩) 128 128, .bool true] ∧ L' = some (g, .cells ((List.replicate 128 (.slice none 0 0)).set 0 (.slice (some ⟨h, 0, none⟩) n c)).toArray 50 (0, 0)) :: L) := by
  refine SCall.enter (n := 11) (resX Γ [.cell 2 41]) (hP ▸ Tryd.func26) rfl rfl (by simp) (resX_ok rfl) ?_
  refine SX.seq_k fun K1 hK1 => ?_
  refine SX.region_d [some 2] rfl (fun ops hops => ?_)
  unfold Dsts at hops
  simp (maxSteps := 1000000) (dsimp := false) (disch := omega) only [go_sem, ia_someH, hP, hops]
  intro b2
  try with_reducible refine stI ?_
  try simp (maxSteps := 1000000) (dsimp := false) (disch := omega) only [go_sem, ia_someH, hP, hops]
  refine hK1 _ _ ?_
  try clear hK1 K1
  refine SX.seq_k fun K2 hK2 => ?_
  refine SX.region_d [some 4, some 5, some 3, none] rfl (fun ops hops => ?_)
  unfold Dsts at hops
  simp (maxSteps := 1000000) (dsimp := false) (disch := omega) only [go_sem, ia_someH, hP, hops]
  intro g
  try with_reducible refine stI ?_
  try simp (maxSteps := 1000000) (dsimp := false) (disch := omega) only [go_sem, ia_someH, hP, hops]
  rw [zerosV_one]
  try with_reducible refine stI ?_
  try simp (maxSteps := 1000000) (dsimp := false) (disch := omega) only [go_sem, ia_someH, hP, hops]
  intro b3
  try with_reducible refine stI ?_
  try simp (maxSteps := 1000000) (dsimp := false) (disch := omega) only [go_sem, ia_someH, hP, hops]
  refine ⟨0, _, _, _, rfl, (by simp), .inr (by decide), ?_⟩
  try with_reducible refine stI ?_
  try simp (maxSteps := 1000000) (dsimp := false) (disch := omega) only [go_sem, ia_someH, hP, hops]
  refine hK2 _ _ ?_
  try clear hK2 K2
  refine SX.seq_k fun K3 hK3 => ?_
  refine SX.region_d [some 6, some 7, some 8, some 9, none] rfl (fun ops hops => ?_)
  unfold Dsts at hops
  simp (maxSteps := 1000000) (dsimp := false) (disch := omega) only [go_sem, ia_someH, hP, hops]
  refine ⟨_, Cell.at 0 rfl rfl, ?_⟩
  try with_reducible refine stI ?_
  try simp (maxSteps := 1000000) (dsimp := false) (disch := omega) only [go_sem, ia_someH, hP, hops]
  refine ⟨1, _, _, _, rfl, (by simp), .inr (by decide), ?_⟩
  try with_reducible refine stI ?_
  try simp (maxSteps := 1000000) (dsimp := false) (disch := omega) only [go_sem, ia_someH, hP, hops]
  refine hK3 _ _ ?_
  try clear hK3 K3
  refine SX.seq_k fun K4 hK4 => ?_
  refine SX.region_d [some 10, none] rfl (fun ops hops => ?_)
  unfold Dsts at hops
  simp (maxSteps := 1000000) (dsimp := false) (disch := omega) only [go_sem, ia_someH, hP, hops]
  refine ⟨_, Cell.at 0 rfl rfl, _, Cell.at 0 rfl rfl, _, Cell.at 0 rfl rfl, ?_⟩
  try with_reducible refine stI ?_
  try simp (maxSteps := 1000000) (dsimp := false) (disch := omega) only [go_sem, ia_someH, hP, hops]
  refine ⟨2, _, _, _, rfl, (by simp), .inr (by decide), ?_⟩
  try with_reducible refine stI ?_
  try simp (maxSteps := 1000000) (dsimp := false) (disch := omega) only [go_sem, ia_someH, hP, hops]
  refine hK4 _ _ ?_
  try clear hK4 K4
  refine SX.ret ?_
  simp only [andThen_normal, andThen_ret, andThen_exit, inBlk_normal, inBlk_ret, inBlk_exit, Nat.reduceEqDiff, if_true, if_false, ↓reduceIte, retQ_ret]
  try simp only [res0, res1, res2, res3, stK_e, resX, resK, oneOr, ld_ptr, loadVC, loadN, List.nil_append, List.cons_append, Nat.reduceAdd, Nat.add_zero, Nat.zero_add, Addr.add_lit, Addr.add_zero', add_addS, T.elA_41, T.lay_41, T.szA_41, T.zr_41, Tryd.underlying41, go_sem, ia_someH, hP]
  exact ⟨_, _, Less.drops (less_mid1), ⟨_, Cell.at 2 rfl rfl, _, Cell.at 2 rfl rfl, _, Cell.at 2 rfl rfl, rfl⟩, g, rfl, rfl⟩

end Go.Proofs.YtpakphgeichopaaDoor
set_option linter.unusedVariables false
set_option linter.unusedSimpArgs false
namespace Go.Proofs.YtpakphgeichopaaDoor
open Go.RowKit Go.SX Go.Proofs
open Go.SX renaming ia_someH → Φa

theorem map_one {α β : Type} {f : α → β} {l : List α} {b : β} (h : l.map f = [b]) : ∃ p, l = [p] ∧ f p = b := by
  match l, h with
  | [p], h => exact ⟨p, rfl, by simpa using h⟩
theorem oneF_by : ∀ i, i < oneF.rows.length → ∀ j, j < (oneF.rows.getD i []).length → 0 ≤ (oneF.rows.getD i []).getD j 0 ∧ (oneF.rows.getD i []).getD j 0 ≤ 255 := by
  intro i hi j hj
  cases i with
  | zero =>
    have : j = 0 := by simp [oneF] at hj; omega
    subst this
    exact ⟨by decide, by decide⟩
  | succ i =>
    exfalso
    have hl : oneF.rows.length = 128 := by rw [oneF]; simp only [List.length_cons, List.length_replicate]
    have h0 : oneF.rows.getD (i + 1) [] = [] := by
      show (List.replicate 127 []).getD i [] = _
      exact rep_getD (by omega)
    rw [h0] at hj
    simp at hj
theorem oneF_cnt : cnt oneF.rows = 1 := by decide +kernel
theorem zSl {Γ : Ctx} {L : Hp} {g : Nat} {Z : List Rc} {n : Nat} (hl : Z.length = n) (hn : n ≤ 9223372036854775807) : SlC (Cell Γ (some (g, .cells (Z.flatMap Rc.cells).toArray 29 (0, 0)) :: L)) (.slice (some ⟨g, 0, none⟩) n n) Z := by
  refine RowL.sl (i := 0) Rc.len (e := 29) (s := some (g, .cells (Z.flatMap Rc.cells).toArray 29 (0, 0))) ?_ rfl
  show Row 29 8 _ Z.length _ _
  rw [hl]
  exact Row.lit (by rw [flat_len Rc.len, hl]) hn
set_option maxHeartbeats 1000000 in
set_option maxRecDepth 100000 in
theorem awake_spec {Γ : Ctx} (hP : Γ.P = Tryd.prog) {L : Hp} (S : SH Γ) :
    SCall Γ 11 #[] L (fun v L' => v = .bool true ∧ L' = L) := by
  refine SCall.enter (n := 72) (res1 0) (hP ▸ Tryd.func11) rfl rfl (by simp) (res1_ok rfl) ?_
  refine SX.seq_k fun K1 hK1 => ?_
  refine SX.region_d [some 0] rfl (fun ops hops => ?_)
  unfold Dsts at hops
  simp (maxSteps:=1000000)(dsimp:=false)(disch:=omega) only [go_sem, Φa, hP, hops]
  refine hK1 _ _ ?_
  try clear hK1 K1
  refine SX.seq_k fun K2 hK2 => ?_
  refine SX.region_d [some 8, some 1] rfl (fun ops hops => ?_)
  unfold Dsts at hops
  simp (maxSteps:=1000000)(dsimp:=false)(disch:=omega) only [go_sem, Φa, hP, hops]
  intro g1
  try with_reducible refine stI ?_
  try simp (maxSteps:=1000000)(dsimp:=false)(disch:=omega) only [go_sem, Φa, hP, hops]
  rw [show zerosV [.int .u8 0, .int .u16 0, .int .u8 0, .bool false, .bool false, .int .u8 0, .bool false, .int .u8 0] 3668 = (List.replicate 3668 (default : Rc)).flatMap Rc.cells from zerosV_flat Rc.cells default 3668]
  try with_reducible refine stI ?_
  try simp (maxSteps:=1000000)(dsimp:=false)(disch:=omega) only [go_sem, Φa, hP, hops]
  refine hK2 _ _ ?_
  try clear hK2 K2
  refine SX.seq_k fun K3 hK3 => ?_
  have hO1 := ofP_one
  have hO2 := ofP_short
  have hZl : (List.replicate 3668 (default : Rc)).length = 3668 := List.length_replicate ..
  rw [show List.replicate 3667 (default : Rc) = (List.replicate 3668 default).take 3667 by rw [List.take_replicate]; rfl] at hO2
  generalize List.replicate 3668 (default : Rc) = Z at hO1 hO2 hZl ⊢
  generalize List.replicate 128 ([] : List Int) = R at hO1
  have hS1 : SlC (Cell Γ (some (g1, .cells (Z.flatMap Rc.cells).toArray 29 (0, 0)) :: L)) (.slice (some ⟨g1, 0, none⟩) 3668 3668) Z := zSl hZl (by decide)
  refine SX.region_d [some 10, some 11, some 12, some 9, some 13, some 14, some 2, some 3] rfl (fun ops hops => ?_)
  unfold Dsts at hops
  simp (maxSteps:=1000000)(dsimp:=false)(disch:=omega) only [go_sem, Φa, hP, hops]
  refine SCall.mono (Of_spec (x := pos 0) (l := Z) hP hS1 (by rw [hZl]; decide) S) ?_
  rintro v_ L_ ⟨vo1, so1, fs1, rfl, rfl, hrow1, hfs1, hmap1⟩
  rw [hO1] at hmap1 ⊢
  obtain ⟨⟨f1, d1⟩, rfl, hp1⟩ := map_one hmap1
  dsimp only at hp1
  subst hp1
  obtain ⟨gA, capA, junkA, rfl, rfl, hcA, _⟩ := RowL.form hrow1 (by simp)
  try with_reducible refine stI ?_
  try simp (maxSteps:=1000000)(dsimp:=false)(disch:=omega) only [go_sem, Φa, hP, hops]
  refine hK3 _ _ ?_
  try clear hK3 K3
  refine SX.live [1, 2, 3] (fun T1 hT1 => ?_)
  simp only [forall_mem_cons', forall_mem_nil', go_sem, Φa, hP] at hT1
  obtain ⟨h1_1, h1_2, h1_3⟩ := hT1
  refine SX.seq_k fun K4 hK4 => ?_
  have hS2 : SlC (Cell Γ (some (gA, .cells ([((⟨0, R, true⟩ : Fm), d1)].flatMap fval ++ junkA).toArray 41 (0, 0)) :: (segs [((⟨0, R, true⟩ : Fm), d1)] ++ (some (g1, .cells (Z.flatMap Rc.cells).toArray 29 (0, 0)) :: L)))) (.slice (some ⟨g1, 0, none⟩) 3667 3668) (Z.take 3667) := Sl.take (SlC.mono (fun a v h => Cell.cons _ (Cell.app _ h)) hS1) (by decide)
  refine SX.region_d [some 16, some 17, some 18, some 19, some 15, some 20, some 21, some 4, some 5] rfl (fun ops hops => ?_)
  unfold Dsts at hops
  simp (maxSteps:=1000000)(dsimp:=false)(disch:=omega) only [go_sem, Φa, hP, h1_1, h1_2, h1_3, hops, cutA0, Nat.sub_zero]
  refine SCall.mono (Of_spec (x := pos 0) (l := Z.take 3667) hP hS2 (by rw [List.length_take, hZl]; decide) S) ?_
  rintro v_ L_ ⟨vo2, so2, fs2, rfl, rfl, hrow2, hfs2, hmap2⟩
  rw [hO2] at hmap2 ⊢
  obtain rfl := List.map_eq_nil_iff.1 hmap2
  obtain ⟨A2, c2, rfl, hc2, _⟩ := Row.form hrow2
  simp only [segs, List.nil_append]
  try with_reducible refine stI ?_
  try simp (maxSteps:=1000000)(dsimp:=false)(disch:=omega) only [go_sem, Φa, hP, h1_1, h1_2, h1_3, hops, cutA0, Nat.sub_zero]
  refine hK4 _ _ ?_
  try clear hK4 K4
  refine SX.live [2, 3, 4, 5] (fun T2 hT2 => ?_)
  simp only [forall_mem_cons', forall_mem_nil', go_sem, Φa, hP, h1_1, h1_2, h1_3] at hT2
  obtain ⟨h2_2, h2_3, h2_4, h2_5⟩ := hT2
  clear h1_1 h1_2 h1_3 T1
  refine SX.seq_k fun K5 hK5 => ?_
  refine SX.region_d [some 23, some 24, some 25, some 22, some 26, some 27, some 6, some 7] rfl (fun ops hops => ?_)
  unfold Dsts at hops
  simp (maxSteps:=1000000)(dsimp:=false)(disch:=omega) only [go_sem, Φa, hP, h2_2, h2_3, h2_4, h2_5, hops]
  intro g4
  try with_reducible refine stI ?_
  try simp (maxSteps:=1000000)(dsimp:=false)(disch:=omega) only [go_sem, Φa, hP, h2_2, h2_3, h2_4, h2_5, hops]
  refine SCall.mono (empty_spec hP) ?_
  rintro v_ L_ ⟨g5, rfl, rfl⟩
  try with_reducible refine stI ?_
  try simp (maxSteps:=1000000)(dsimp:=false)(disch:=omega) only [go_sem, Φa, hP, h2_2, h2_3, h2_4, h2_5, hops]
  refine SCall.mono (Show_spec (f := oneF) hP (oneF_sl (g := g5) (h := g4) (c := 1) (List.mem_cons_self ..) (List.mem_cons_of_mem _ (List.mem_cons_self ..)) (Nat.le_refl _)) (by rw [oneF_cnt]; decide) (by decide +kernel) oneF_by) ?_
  rintro v_ L_ ⟨rfl, rfl⟩
  rw [oneF_show]
  try with_reducible refine stI ?_
  try simp (maxSteps:=1000000)(dsimp:=false)(disch:=omega) only [go_sem, Φa, hP, h2_2, h2_3, h2_4, h2_5, hops]
  refine hK5 _ _ ?_
  try clear hK5 K5
  refine SX.seq_k fun K6 hK6 => ?_
  refine SX.region_xd [some 28, some 29, some 30, some 31, some 32, some 33, some 34, some 35, some 36, some 37, some 38, some 39, some 40, some 41, some 42, some 43, some 44, some 45, some 46, some 47, some 48, some 49, some 50, some 51, some 52, some 53, some 54, some 55, some 56, some 57, some 58, some 59, some 60, some 61, some 62, some 63, some 64, some 65, some 66, some 67, some 68, some 69, some 70, some 71, some 0] rfl (fun ops hops => ?_)
  unfold Dsts at hops
  refine RX.live [2, 3, 4, 5, 6, 7] (fun T3 hT3 => ?_)
  simp only [forall_mem_cons', forall_mem_nil', go_sem, Φa, hP, h2_2, h2_3, h2_4, h2_5] at hT3
  obtain ⟨h3_2, h3_3, h3_4, h3_5, h3_6, h3_7⟩ := hT3
  clear h2_2 h2_3 h2_4 h2_5 T2
  have hs1 := oneF_len
  have hs2 := oneF_head
  refine RX.join 7 (fun (ss : Unit) T L' => T 34 = .bool (true) ∧ T 2 = T3 2 ∧ T 4 = T3 4 ∧ T 5 = T3 5 ∧ T 6 = T3 6 ∧ T 7 = T3 7 ∧ L' = some (g5, .cells ((List.replicate 128 (.slice none 0 0)).set 0 (.slice (some ⟨g4, 0, none⟩) 1 1)).toArray 50 (0, 0)) :: some (g4, .cells [.int .u8 129].toArray 5 (0, 0)) :: so2 :: some (gA, .cells ([((⟨0, R, true⟩ : Fm), d1)].flatMap fval ++ junkA).toArray 41 (0, 0)) :: (segs [((⟨0, R, true⟩ : Fm), d1)] ++ (some (g1, .cells (Z.flatMap Rc.cells).toArray 29 (0, 0)) :: L)) ∧ (True)) (fun K7 hK7 => ?_) ?_
  · simp only [h3_2, h3_4, h3_5, h3_6, h3_7] at hK7
    simp (maxSteps:=1000000)(dsimp:=false)(disch:=omega) only [go_sem, Φa, hP, h3_2, h3_3, h3_4, h3_5, h3_6, h3_7, hops, hs1, hs2]
    repeat' (first | refine iteB (fun hg => ?_) (fun hg => ?_) | refine iteI (fun hg => ?_) (fun hg => ?_) | ((first | refine ⟨_, Cell.at 3 rfl rfl, ?_⟩ | refine And.intro (by omega) ?_ | refine ⟨_, Cell.at 0 rfl rfl, ?_⟩ | refine ⟨_, Cell.at 1 rfl rfl, ?_⟩ | refine ⟨_, Cell.at 2 rfl rfl, ?_⟩ | refine ⟨_, Cell.at 3 rfl rfl, ?_⟩ | refine ⟨_, Cell.at 4 rfl rfl, ?_⟩ | fail); try (with_reducible refine stI ?_); try simp (maxSteps:=1000000)(dsimp:=false)(disch:=omega) only [go_sem, Φa, hP, h3_2, h3_3, h3_4, h3_5, h3_6, h3_7, hops, hs1, hs2]) | fail)
    all_goals
      refine hK7 () _ (some (g5, .cells ((List.replicate 128 (.slice none 0 0)).set 0 (.slice (some ⟨g4, 0, none⟩) 1 1)).toArray 50 (0, 0)) :: some (g4, .cells [.int .u8 129].toArray 5 (0, 0)) :: so2 :: some (gA, .cells ([((⟨0, R, true⟩ : Fm), d1)].flatMap fval ++ junkA).toArray 41 (0, 0)) :: (segs [((⟨0, R, true⟩ : Fm), d1)] ++ (some (g1, .cells (Z.flatMap Rc.cells).toArray 29 (0, 0)) :: L))) _ (by first | exact Less.refl _ | exact Less.drop _ _ | exact Less.drops (Less.drop _ _) | exact Less.drops (Less.drops (Less.drop _ _)) | exact Less.drops (Less.drops (Less.drops (Less.drop _ _))) | exact Less.drops (Less.drops (Less.drops (Less.drops (Less.drop _ _))))) ?_
      try dsimp only
      refine ⟨?_, ?_, ?_, ?_, ?_, ?_, ?_, ?_⟩
      · simp (maxSteps:=1000000)(dsimp:=false)(disch:=omega) only [go_sem, Φa, hP, h3_2, h3_3, h3_4, h3_5, h3_6, h3_7]
        first | done | rfl
      · simp (maxSteps:=1000000)(dsimp:=false)(disch:=omega) only [go_sem, Φa, hP, h3_2, h3_3, h3_4, h3_5, h3_6, h3_7]
      · simp (maxSteps:=1000000)(dsimp:=false)(disch:=omega) only [go_sem, Φa, hP, h3_2, h3_3, h3_4, h3_5, h3_6, h3_7]
      · simp (maxSteps:=1000000)(dsimp:=false)(disch:=omega) only [go_sem, Φa, hP, h3_2, h3_3, h3_4, h3_5, h3_6, h3_7]
      · simp (maxSteps:=1000000)(dsimp:=false)(disch:=omega) only [go_sem, Φa, hP, h3_2, h3_3, h3_4, h3_5, h3_6, h3_7]
      · simp (maxSteps:=1000000)(dsimp:=false)(disch:=omega) only [go_sem, Φa, hP, h3_2, h3_3, h3_4, h3_5, h3_6, h3_7]
      · rfl
      · trivial
  · intro ss T4 L4 hI
    simp only [h3_2, h3_4, h3_5, h3_6, h3_7] at hI 
    obtain ⟨h4_34, h4_2, h4_4, h4_5, h4_6, h4_7, hL4, hinv⟩ := hI
    replace hL4 := hL4.symm
    subst hL4
    clear h3_2 h3_3 h3_4 h3_5 h3_6 h3_7 T3
    refine RX.live [2, 4, 5, 6, 7, 34] (fun T5 hT5 => ?_)
    simp only [forall_mem_cons', forall_mem_nil', go_sem, Φa, hP, h4_34, h4_2, h4_4, h4_5, h4_6, h4_7] at hT5
    obtain ⟨h5_2, h5_4, h5_5, h5_6, h5_7, h5_34⟩ := hT5
    clear h4_34 h4_2 h4_4 h4_5 h4_6 h4_7 T4
    refine RX.join 6 (fun (ss : Unit) T L' => T 40 = .bool (true) ∧ T 2 = T5 2 ∧ T 4 = T5 4 ∧ T 5 = T5 5 ∧ T 6 = T5 6 ∧ T 7 = T5 7 ∧ L' = some (g5, .cells ((List.replicate 128 (.slice none 0 0)).set 0 (.slice (some ⟨g4, 0, none⟩) 1 1)).toArray 50 (0, 0)) :: some (g4, .cells [.int .u8 129].toArray 5 (0, 0)) :: so2 :: some (gA, .cells ([((⟨0, R, true⟩ : Fm), d1)].flatMap fval ++ junkA).toArray 41 (0, 0)) :: (segs [((⟨0, R, true⟩ : Fm), d1)] ++ (some (g1, .cells (Z.flatMap Rc.cells).toArray 29 (0, 0)) :: L)) ∧ (True)) (fun K8 hK8 => ?_) ?_
    · simp only [h5_2, h5_4, h5_5, h5_6, h5_7] at hK8
      simp (maxSteps:=1000000)(dsimp:=false)(disch:=omega) only [go_sem, Φa, hP, h5_2, h5_4, h5_5, h5_6, h5_7, h5_34, hops, hs1, hs2]
      repeat' (first | refine iteB (fun hg => ?_) (fun hg => ?_) | refine iteI (fun hg => ?_) (fun hg => ?_) | ((first | refine ⟨_, Cell.at 3 rfl rfl, ?_⟩ | refine And.intro (by omega) ?_ | refine ⟨_, Cell.at 0 rfl rfl, ?_⟩ | refine ⟨_, Cell.at 1 rfl rfl, ?_⟩ | refine ⟨_, Cell.at 2 rfl rfl, ?_⟩ | refine ⟨_, Cell.at 3 rfl rfl, ?_⟩ | refine ⟨_, Cell.at 4 rfl rfl, ?_⟩ | fail); try (with_reducible refine stI ?_); try simp (maxSteps:=1000000)(dsimp:=false)(disch:=omega) only [go_sem, Φa, hP, h5_2, h5_4, h5_5, h5_6, h5_7, h5_34, hops, hs1, hs2]) | fail)
      all_goals
        refine hK8 () _ (some (g5, .cells ((List.replicate 128 (.slice none 0 0)).set 0 (.slice (some ⟨g4, 0, none⟩) 1 1)).toArray 50 (0, 0)) :: some (g4, .cells [.int .u8 129].toArray 5 (0, 0)) :: so2 :: some (gA, .cells ([((⟨0, R, true⟩ : Fm), d1)].flatMap fval ++ junkA).toArray 41 (0, 0)) :: (segs [((⟨0, R, true⟩ : Fm), d1)] ++ (some (g1, .cells (Z.flatMap Rc.cells).toArray 29 (0, 0)) :: L))) _ (by first | exact Less.refl _ | exact Less.drop _ _ | exact Less.drops (Less.drop _ _) | exact Less.drops (Less.drops (Less.drop _ _)) | exact Less.drops (Less.drops (Less.drops (Less.drop _ _))) | exact Less.drops (Less.drops (Less.drops (Less.drops (Less.drop _ _))))) ?_
        try dsimp only
        refine ⟨?_, ?_, ?_, ?_, ?_, ?_, ?_, ?_⟩
        · simp (maxSteps:=1000000)(dsimp:=false)(disch:=omega) only [go_sem, Φa, hP, h5_2, h5_4, h5_5, h5_6, h5_7, h5_34]
          first | done | rfl
        · simp (maxSteps:=1000000)(dsimp:=false)(disch:=omega) only [go_sem, Φa, hP, h5_2, h5_4, h5_5, h5_6, h5_7, h5_34]
        · simp (maxSteps:=1000000)(dsimp:=false)(disch:=omega) only [go_sem, Φa, hP, h5_2, h5_4, h5_5, h5_6, h5_7, h5_34]
        · simp (maxSteps:=1000000)(dsimp:=false)(disch:=omega) only [go_sem, Φa, hP, h5_2, h5_4, h5_5, h5_6, h5_7, h5_34]
        · simp (maxSteps:=1000000)(dsimp:=false)(disch:=omega) only [go_sem, Φa, hP, h5_2, h5_4, h5_5, h5_6, h5_7, h5_34]
        · simp (maxSteps:=1000000)(dsimp:=false)(disch:=omega) only [go_sem, Φa, hP, h5_2, h5_4, h5_5, h5_6, h5_7, h5_34]
        · rfl
        · trivial
    · intro ss T6 L6 hI
      simp only [h5_2, h5_4, h5_5, h5_6, h5_7] at hI 
      obtain ⟨h6_40, h6_2, h6_4, h6_5, h6_6, h6_7, hL6, hinv⟩ := hI
      replace hL6 := hL6.symm
      subst hL6
      clear h5_2 h5_4 h5_5 h5_6 h5_7 h5_34 T5
      refine RX.live [2, 4, 5, 6, 7, 40] (fun T7 hT7 => ?_)
      simp only [forall_mem_cons', forall_mem_nil', go_sem, Φa, hP, h6_40, h6_2, h6_4, h6_5, h6_6, h6_7] at hT7
      obtain ⟨h7_2, h7_4, h7_5, h7_6, h7_7, h7_40⟩ := hT7
      clear h6_40 h6_2 h6_4 h6_5 h6_6 h6_7 T6
      refine RX.join 8 (fun (ss : Unit) T L' => T 48 = .bool (true) ∧ T 4 = T7 4 ∧ T 5 = T7 5 ∧ T 6 = T7 6 ∧ T 7 = T7 7 ∧ L' = some (g5, .cells ((List.replicate 128 (.slice none 0 0)).set 0 (.slice (some ⟨g4, 0, none⟩) 1 1)).toArray 50 (0, 0)) :: some (g4, .cells [.int .u8 129].toArray 5 (0, 0)) :: so2 :: some (gA, .cells ([((⟨0, R, true⟩ : Fm), d1)].flatMap fval ++ junkA).toArray 41 (0, 0)) :: (segs [((⟨0, R, true⟩ : Fm), d1)] ++ (some (g1, .cells (Z.flatMap Rc.cells).toArray 29 (0, 0)) :: L)) ∧ (True)) (fun K9 hK9 => ?_) ?_
      · simp only [h7_4, h7_5, h7_6, h7_7] at hK9
        simp (maxSteps:=1000000)(dsimp:=false)(disch:=omega) only [go_sem, Φa, hP, h7_2, h7_4, h7_5, h7_6, h7_7, h7_40, hops, hs1, hs2]
        repeat' (first | refine iteB (fun hg => ?_) (fun hg => ?_) | refine iteI (fun hg => ?_) (fun hg => ?_) | ((first | refine ⟨_, Cell.at 3 rfl rfl, ?_⟩ | refine And.intro (by omega) ?_ | refine ⟨_, Cell.at 0 rfl rfl, ?_⟩ | refine ⟨_, Cell.at 1 rfl rfl, ?_⟩ | refine ⟨_, Cell.at 2 rfl rfl, ?_⟩ | refine ⟨_, Cell.at 3 rfl rfl, ?_⟩ | refine ⟨_, Cell.at 4 rfl rfl, ?_⟩ | fail); try (with_reducible refine stI ?_); try simp (maxSteps:=1000000)(dsimp:=false)(disch:=omega) only [go_sem, Φa, hP, h7_2, h7_4, h7_5, h7_6, h7_7, h7_40, hops, hs1, hs2]) | fail)
        all_goals
          refine hK9 () _ (some (g5, .cells ((List.replicate 128 (.slice none 0 0)).set 0 (.slice (some ⟨g4, 0, none⟩) 1 1)).toArray 50 (0, 0)) :: some (g4, .cells [.int .u8 129].toArray 5 (0, 0)) :: so2 :: some (gA, .cells ([((⟨0, R, true⟩ : Fm), d1)].flatMap fval ++ junkA).toArray 41 (0, 0)) :: (segs [((⟨0, R, true⟩ : Fm), d1)] ++ (some (g1, .cells (Z.flatMap Rc.cells).toArray 29 (0, 0)) :: L))) _ (by first | exact Less.refl _ | exact Less.drop _ _ | exact Less.drops (Less.drop _ _) | exact Less.drops (Less.drops (Less.drop _ _)) | exact Less.drops (Less.drops (Less.drops (Less.drop _ _))) | exact Less.drops (Less.drops (Less.drops (Less.drops (Less.drop _ _))))) ?_
          try dsimp only
          refine ⟨?_, ?_, ?_, ?_, ?_, ?_, ?_⟩
          · simp (maxSteps:=1000000)(dsimp:=false)(disch:=omega) only [go_sem, Φa, hP, h7_2, h7_4, h7_5, h7_6, h7_7, h7_40]
            first | done | rfl
          · simp (maxSteps:=1000000)(dsimp:=false)(disch:=omega) only [go_sem, Φa, hP, h7_2, h7_4, h7_5, h7_6, h7_7, h7_40]
          · simp (maxSteps:=1000000)(dsimp:=false)(disch:=omega) only [go_sem, Φa, hP, h7_2, h7_4, h7_5, h7_6, h7_7, h7_40]
          · simp (maxSteps:=1000000)(dsimp:=false)(disch:=omega) only [go_sem, Φa, hP, h7_2, h7_4, h7_5, h7_6, h7_7, h7_40]
          · simp (maxSteps:=1000000)(dsimp:=false)(disch:=omega) only [go_sem, Φa, hP, h7_2, h7_4, h7_5, h7_6, h7_7, h7_40]
          · rfl
          · trivial
      · intro ss T8 L8 hI
        simp only [h7_4, h7_5, h7_6, h7_7] at hI 
        obtain ⟨h8_48, h8_4, h8_5, h8_6, h8_7, hL8, hinv⟩ := hI
        replace hL8 := hL8.symm
        subst hL8
        clear h7_2 h7_4 h7_5 h7_6 h7_7 h7_40 T7
        refine RX.live [4, 5, 6, 7, 48] (fun T9 hT9 => ?_)
        simp only [forall_mem_cons', forall_mem_nil', go_sem, Φa, hP, h8_48, h8_4, h8_5, h8_6, h8_7] at hT9
        obtain ⟨h9_4, h9_5, h9_6, h9_7, h9_48⟩ := hT9
        clear h8_48 h8_4 h8_5 h8_6 h8_7 T8
        refine RX.join 4 (fun (ss : Unit) T L' => T 52 = .bool (true) ∧ T 4 = T9 4 ∧ T 6 = T9 6 ∧ T 7 = T9 7 ∧ L' = some (g5, .cells ((List.replicate 128 (.slice none 0 0)).set 0 (.slice (some ⟨g4, 0, none⟩) 1 1)).toArray 50 (0, 0)) :: some (g4, .cells [.int .u8 129].toArray 5 (0, 0)) :: so2 :: some (gA, .cells ([((⟨0, R, true⟩ : Fm), d1)].flatMap fval ++ junkA).toArray 41 (0, 0)) :: (segs [((⟨0, R, true⟩ : Fm), d1)] ++ (some (g1, .cells (Z.flatMap Rc.cells).toArray 29 (0, 0)) :: L)) ∧ (True)) (fun K10 hK10 => ?_) ?_
        · simp only [h9_4, h9_6, h9_7] at hK10
          simp (maxSteps:=1000000)(dsimp:=false)(disch:=omega) only [go_sem, Φa, hP, h9_4, h9_5, h9_6, h9_7, h9_48, hops, hs1, hs2]
          repeat' (first | refine iteB (fun hg => ?_) (fun hg => ?_) | refine iteI (fun hg => ?_) (fun hg => ?_) | ((first | refine ⟨_, Cell.at 3 rfl rfl, ?_⟩ | refine And.intro (by omega) ?_ | refine ⟨_, Cell.at 0 rfl rfl, ?_⟩ | refine ⟨_, Cell.at 1 rfl rfl, ?_⟩ | refine ⟨_, Cell.at 2 rfl rfl, ?_⟩ | refine ⟨_, Cell.at 3 rfl rfl, ?_⟩ | refine ⟨_, Cell.at 4 rfl rfl, ?_⟩ | fail); try (with_reducible refine stI ?_); try simp (maxSteps:=1000000)(dsimp:=false)(disch:=omega) only [go_sem, Φa, hP, h9_4, h9_5, h9_6, h9_7, h9_48, hops, hs1, hs2]) | fail)
          all_goals
            refine hK10 () _ (some (g5, .cells ((List.replicate 128 (.slice none 0 0)).set 0 (.slice (some ⟨g4, 0, none⟩) 1 1)).toArray 50 (0, 0)) :: some (g4, .cells [.int .u8 129].toArray 5 (0, 0)) :: so2 :: some (gA, .cells ([((⟨0, R, true⟩ : Fm), d1)].flatMap fval ++ junkA).toArray 41 (0, 0)) :: (segs [((⟨0, R, true⟩ : Fm), d1)] ++ (some (g1, .cells (Z.flatMap Rc.cells).toArray 29 (0, 0)) :: L))) _ (by first | exact Less.refl _ | exact Less.drop _ _ | exact Less.drops (Less.drop _ _) | exact Less.drops (Less.drops (Less.drop _ _)) | exact Less.drops (Less.drops (Less.drops (Less.drop _ _))) | exact Less.drops (Less.drops (Less.drops (Less.drops (Less.drop _ _))))) ?_
            try dsimp only
            refine ⟨?_, ?_, ?_, ?_, ?_, ?_⟩
            · simp (maxSteps:=1000000)(dsimp:=false)(disch:=omega) only [go_sem, Φa, hP, h9_4, h9_5, h9_6, h9_7, h9_48]
              first | done | rfl
            · simp (maxSteps:=1000000)(dsimp:=false)(disch:=omega) only [go_sem, Φa, hP, h9_4, h9_5, h9_6, h9_7, h9_48]
            · simp (maxSteps:=1000000)(dsimp:=false)(disch:=omega) only [go_sem, Φa, hP, h9_4, h9_5, h9_6, h9_7, h9_48]
            · simp (maxSteps:=1000000)(dsimp:=false)(disch:=omega) only [go_sem, Φa, hP, h9_4, h9_5, h9_6, h9_7, h9_48]
            · rfl
            · trivial
        · intro ss T10 L10 hI
          simp only [h9_4, h9_6, h9_7] at hI 
          obtain ⟨h10_52, h10_4, h10_6, h10_7, hL10, hinv⟩ := hI
          replace hL10 := hL10.symm
          subst hL10
          clear h9_4 h9_5 h9_6 h9_7 h9_48 T9
          refine RX.live [4, 6, 7, 52] (fun T11 hT11 => ?_)
          simp only [forall_mem_cons', forall_mem_nil', go_sem, Φa, hP, h10_52, h10_4, h10_6, h10_7] at hT11
          obtain ⟨h11_4, h11_6, h11_7, h11_52⟩ := hT11
          clear h10_52 h10_4 h10_6 h10_7 T10
          refine RX.join 5 (fun (ss : Unit) T L' => T 57 = .bool (true) ∧ T 6 = T11 6 ∧ T 7 = T11 7 ∧ L' = some (g5, .cells ((List.replicate 128 (.slice none 0 0)).set 0 (.slice (some ⟨g4, 0, none⟩) 1 1)).toArray 50 (0, 0)) :: some (g4, .cells [.int .u8 129].toArray 5 (0, 0)) :: so2 :: some (gA, .cells ([((⟨0, R, true⟩ : Fm), d1)].flatMap fval ++ junkA).toArray 41 (0, 0)) :: (segs [((⟨0, R, true⟩ : Fm), d1)] ++ (some (g1, .cells (Z.flatMap Rc.cells).toArray 29 (0, 0)) :: L)) ∧ (True)) (fun K11 hK11 => ?_) ?_
          · simp only [h11_6, h11_7] at hK11
            simp (maxSteps:=1000000)(dsimp:=false)(disch:=omega) only [go_sem, Φa, hP, h11_4, h11_6, h11_7, h11_52, hops, hs1, hs2]
            repeat' (first | refine iteB (fun hg => ?_) (fun hg => ?_) | refine iteI (fun hg => ?_) (fun hg => ?_) | ((first | refine ⟨_, Cell.at 3 rfl rfl, ?_⟩ | refine And.intro (by omega) ?_ | refine ⟨_, Cell.at 0 rfl rfl, ?_⟩ | refine ⟨_, Cell.at 1 rfl rfl, ?_⟩ | refine ⟨_, Cell.at 2 rfl rfl, ?_⟩ | refine ⟨_, Cell.at 3 rfl rfl, ?_⟩ | refine ⟨_, Cell.at 4 rfl rfl, ?_⟩ | fail); try (with_reducible refine stI ?_); try simp (maxSteps:=1000000)(dsimp:=false)(disch:=omega) only [go_sem, Φa, hP, h11_4, h11_6, h11_7, h11_52, hops, hs1, hs2]) | fail)
            all_goals
              refine hK11 () _ (some (g5, .cells ((List.replicate 128 (.slice none 0 0)).set 0 (.slice (some ⟨g4, 0, none⟩) 1 1)).toArray 50 (0, 0)) :: some (g4, .cells [.int .u8 129].toArray 5 (0, 0)) :: so2 :: some (gA, .cells ([((⟨0, R, true⟩ : Fm), d1)].flatMap fval ++ junkA).toArray 41 (0, 0)) :: (segs [((⟨0, R, true⟩ : Fm), d1)] ++ (some (g1, .cells (Z.flatMap Rc.cells).toArray 29 (0, 0)) :: L))) _ (by first | exact Less.refl _ | exact Less.drop _ _ | exact Less.drops (Less.drop _ _) | exact Less.drops (Less.drops (Less.drop _ _)) | exact Less.drops (Less.drops (Less.drops (Less.drop _ _))) | exact Less.drops (Less.drops (Less.drops (Less.drops (Less.drop _ _))))) ?_
              try dsimp only
              refine ⟨?_, ?_, ?_, ?_, ?_⟩
              · simp (maxSteps:=1000000)(dsimp:=false)(disch:=omega) only [go_sem, Φa, hP, h11_4, h11_6, h11_7, h11_52]
                first | done | rfl
              · simp (maxSteps:=1000000)(dsimp:=false)(disch:=omega) only [go_sem, Φa, hP, h11_4, h11_6, h11_7, h11_52]
              · simp (maxSteps:=1000000)(dsimp:=false)(disch:=omega) only [go_sem, Φa, hP, h11_4, h11_6, h11_7, h11_52]
              · rfl
              · trivial
          · intro ss T12 L12 hI
            simp only [h11_6, h11_7] at hI 
            obtain ⟨h12_57, h12_6, h12_7, hL12, hinv⟩ := hI
            replace hL12 := hL12.symm
            subst hL12
            clear h11_4 h11_6 h11_7 h11_52 T11
            refine RX.live [6, 7, 57] (fun T13 hT13 => ?_)
            simp only [forall_mem_cons', forall_mem_nil', go_sem, Φa, hP, h12_57, h12_6, h12_7] at hT13
            obtain ⟨h13_6, h13_7, h13_57⟩ := hT13
            clear h12_57 h12_6 h12_7 T12
            refine RX.join 4 (fun (ss : Unit) T L' => T 61 = .bool (true) ∧ T 6 = T13 6 ∧ L' = some (g5, .cells ((List.replicate 128 (.slice none 0 0)).set 0 (.slice (some ⟨g4, 0, none⟩) 1 1)).toArray 50 (0, 0)) :: some (g4, .cells [.int .u8 129].toArray 5 (0, 0)) :: so2 :: some (gA, .cells ([((⟨0, R, true⟩ : Fm), d1)].flatMap fval ++ junkA).toArray 41 (0, 0)) :: (segs [((⟨0, R, true⟩ : Fm), d1)] ++ (some (g1, .cells (Z.flatMap Rc.cells).toArray 29 (0, 0)) :: L)) ∧ (True)) (fun K12 hK12 => ?_) ?_
            · simp only [h13_6] at hK12
              simp (maxSteps:=1000000)(dsimp:=false)(disch:=omega) only [go_sem, Φa, hP, h13_6, h13_7, h13_57, hops, hs1, hs2]
              repeat' (first | refine iteB (fun hg => ?_) (fun hg => ?_) | refine iteI (fun hg => ?_) (fun hg => ?_) | ((first | refine ⟨_, Cell.at 3 rfl rfl, ?_⟩ | refine And.intro (by omega) ?_ | refine ⟨_, Cell.at 0 rfl rfl, ?_⟩ | refine ⟨_, Cell.at 1 rfl rfl, ?_⟩ | refine ⟨_, Cell.at 2 rfl rfl, ?_⟩ | refine ⟨_, Cell.at 3 rfl rfl, ?_⟩ | refine ⟨_, Cell.at 4 rfl rfl, ?_⟩ | fail); try (with_reducible refine stI ?_); try simp (maxSteps:=1000000)(dsimp:=false)(disch:=omega) only [go_sem, Φa, hP, h13_6, h13_7, h13_57, hops, hs1, hs2]) | fail)
              all_goals
                refine hK12 () _ (some (g5, .cells ((List.replicate 128 (.slice none 0 0)).set 0 (.slice (some ⟨g4, 0, none⟩) 1 1)).toArray 50 (0, 0)) :: some (g4, .cells [.int .u8 129].toArray 5 (0, 0)) :: so2 :: some (gA, .cells ([((⟨0, R, true⟩ : Fm), d1)].flatMap fval ++ junkA).toArray 41 (0, 0)) :: (segs [((⟨0, R, true⟩ : Fm), d1)] ++ (some (g1, .cells (Z.flatMap Rc.cells).toArray 29 (0, 0)) :: L))) _ (by first | exact Less.refl _ | exact Less.drop _ _ | exact Less.drops (Less.drop _ _) | exact Less.drops (Less.drops (Less.drop _ _)) | exact Less.drops (Less.drops (Less.drops (Less.drop _ _))) | exact Less.drops (Less.drops (Less.drops (Less.drops (Less.drop _ _))))) ?_
                try dsimp only
                refine ⟨?_, ?_, ?_, ?_⟩
                · simp (maxSteps:=1000000)(dsimp:=false)(disch:=omega) only [go_sem, Φa, hP, h13_6, h13_7, h13_57]
                  first | done | rfl
                · simp (maxSteps:=1000000)(dsimp:=false)(disch:=omega) only [go_sem, Φa, hP, h13_6, h13_7, h13_57]
                · rfl
                · trivial
            · intro ss T14 L14 hI
              simp only [h13_6] at hI 
              obtain ⟨h14_61, h14_6, hL14, hinv⟩ := hI
              replace hL14 := hL14.symm
              subst hL14
              clear h13_6 h13_7 h13_57 T13
              refine RX.live [6, 61] (fun T15 hT15 => ?_)
              simp only [forall_mem_cons', forall_mem_nil', go_sem, Φa, hP, h14_61, h14_6] at hT15
              obtain ⟨h15_6, h15_61⟩ := hT15
              clear h14_61 h14_6 T14
              refine RX.join 5 (fun (ss : Unit) T L' => T 66 = .bool (true) ∧ T 6 = T15 6 ∧ L' = some (g5, .cells ((List.replicate 128 (.slice none 0 0)).set 0 (.slice (some ⟨g4, 0, none⟩) 1 1)).toArray 50 (0, 0)) :: some (g4, .cells [.int .u8 129].toArray 5 (0, 0)) :: so2 :: some (gA, .cells ([((⟨0, R, true⟩ : Fm), d1)].flatMap fval ++ junkA).toArray 41 (0, 0)) :: (segs [((⟨0, R, true⟩ : Fm), d1)] ++ (some (g1, .cells (Z.flatMap Rc.cells).toArray 29 (0, 0)) :: L)) ∧ (True)) (fun K13 hK13 => ?_) ?_
              · simp only [h15_6] at hK13
                simp (maxSteps:=1000000)(dsimp:=false)(disch:=omega) only [go_sem, Φa, hP, h15_6, h15_61, hops, hs1, hs2]
                repeat' (first | refine iteB (fun hg => ?_) (fun hg => ?_) | refine iteI (fun hg => ?_) (fun hg => ?_) | ((first | refine ⟨_, Cell.at 3 rfl rfl, ?_⟩ | refine And.intro (by omega) ?_ | refine ⟨_, Cell.at 0 rfl rfl, ?_⟩ | refine ⟨_, Cell.at 1 rfl rfl, ?_⟩ | refine ⟨_, Cell.at 2 rfl rfl, ?_⟩ | refine ⟨_, Cell.at 3 rfl rfl, ?_⟩ | refine ⟨_, Cell.at 4 rfl rfl, ?_⟩ | fail); try (with_reducible refine stI ?_); try simp (maxSteps:=1000000)(dsimp:=false)(disch:=omega) only [go_sem, Φa, hP, h15_6, h15_61, hops, hs1, hs2]) | fail)
                all_goals
                  refine hK13 () _ (some (g5, .cells ((List.replicate 128 (.slice none 0 0)).set 0 (.slice (some ⟨g4, 0, none⟩) 1 1)).toArray 50 (0, 0)) :: some (g4, .cells [.int .u8 129].toArray 5 (0, 0)) :: so2 :: some (gA, .cells ([((⟨0, R, true⟩ : Fm), d1)].flatMap fval ++ junkA).toArray 41 (0, 0)) :: (segs [((⟨0, R, true⟩ : Fm), d1)] ++ (some (g1, .cells (Z.flatMap Rc.cells).toArray 29 (0, 0)) :: L))) _ (by first | exact Less.refl _ | exact Less.drop _ _ | exact Less.drops (Less.drop _ _) | exact Less.drops (Less.drops (Less.drop _ _)) | exact Less.drops (Less.drops (Less.drops (Less.drop _ _))) | exact Less.drops (Less.drops (Less.drops (Less.drops (Less.drop _ _))))) ?_
                  try dsimp only
                  refine ⟨?_, ?_, ?_, ?_⟩
                  · simp (maxSteps:=1000000)(dsimp:=false)(disch:=omega) only [go_sem, Φa, hP, h15_6, h15_61]
                    first | done | rfl
                  · simp (maxSteps:=1000000)(dsimp:=false)(disch:=omega) only [go_sem, Φa, hP, h15_6, h15_61]
                  · rfl
                  · trivial
              · intro ss T16 L16 hI
                simp only [h15_6] at hI 
                obtain ⟨h16_66, h16_6, hL16, hinv⟩ := hI
                replace hL16 := hL16.symm
                subst hL16
                clear h15_6 h15_61 T15
                refine RX.live [6, 66] (fun T17 hT17 => ?_)
                simp only [forall_mem_cons', forall_mem_nil', go_sem, Φa, hP, h16_66, h16_6] at hT17
                obtain ⟨h17_6, h17_66⟩ := hT17
                clear h16_66 h16_6 T16
                refine RX.join 5 (fun (ss : Unit) T L' => T 71 = .bool (true) ∧ L' = some (g5, .cells ((List.replicate 128 (.slice none 0 0)).set 0 (.slice (some ⟨g4, 0, none⟩) 1 1)).toArray 50 (0, 0)) :: some (g4, .cells [.int .u8 129].toArray 5 (0, 0)) :: so2 :: some (gA, .cells ([((⟨0, R, true⟩ : Fm), d1)].flatMap fval ++ junkA).toArray 41 (0, 0)) :: (segs [((⟨0, R, true⟩ : Fm), d1)] ++ (some (g1, .cells (Z.flatMap Rc.cells).toArray 29 (0, 0)) :: L)) ∧ (True)) (fun K14 hK14 => ?_) ?_
                · simp (maxSteps:=1000000)(dsimp:=false)(disch:=omega) only [go_sem, Φa, hP, h17_6, h17_66, hops, hs1, hs2]
                  repeat' (first | refine iteB (fun hg => ?_) (fun hg => ?_) | refine iteI (fun hg => ?_) (fun hg => ?_) | ((first | refine ⟨_, Cell.at 3 rfl rfl, ?_⟩ | refine And.intro (by omega) ?_ | refine ⟨_, Cell.at 0 rfl rfl, ?_⟩ | refine ⟨_, Cell.at 1 rfl rfl, ?_⟩ | refine ⟨_, Cell.at 2 rfl rfl, ?_⟩ | refine ⟨_, Cell.at 3 rfl rfl, ?_⟩ | refine ⟨_, Cell.at 4 rfl rfl, ?_⟩ | fail); try (with_reducible refine stI ?_); try simp (maxSteps:=1000000)(dsimp:=false)(disch:=omega) only [go_sem, Φa, hP, h17_6, h17_66, hops, hs1, hs2]) | fail)
                  all_goals
                    refine hK14 () _ (some (g5, .cells ((List.replicate 128 (.slice none 0 0)).set 0 (.slice (some ⟨g4, 0, none⟩) 1 1)).toArray 50 (0, 0)) :: some (g4, .cells [.int .u8 129].toArray 5 (0, 0)) :: so2 :: some (gA, .cells ([((⟨0, R, true⟩ : Fm), d1)].flatMap fval ++ junkA).toArray 41 (0, 0)) :: (segs [((⟨0, R, true⟩ : Fm), d1)] ++ (some (g1, .cells (Z.flatMap Rc.cells).toArray 29 (0, 0)) :: L))) _ (by first | exact Less.refl _ | exact Less.drop _ _ | exact Less.drops (Less.drop _ _) | exact Less.drops (Less.drops (Less.drop _ _)) | exact Less.drops (Less.drops (Less.drops (Less.drop _ _))) | exact Less.drops (Less.drops (Less.drops (Less.drops (Less.drop _ _))))) ?_
                    try dsimp only
                    refine ⟨?_, ?_, ?_⟩
                    · simp (maxSteps:=1000000)(dsimp:=false)(disch:=omega) only [go_sem, Φa, hP, h17_6, h17_66]
                      first | done | rfl
                    · rfl
                    · trivial
                · intro ss T18 L18 hI
                  obtain ⟨h18_71, hL18, hinv⟩ := hI
                  replace hL18 := hL18.symm
                  subst hL18
                  clear h17_6 h17_66 T17
                  refine RX.done ?_
                  simp (maxSteps:=1000000)(dsimp:=false)(disch:=omega) only [go_sem, Φa, hP, h18_71, hops]
                  refine hK6 _ _ ?_
                  try clear hK6 K6
                  refine SX.ret ?_
                  simp only [andThen_normal, andThen_ret, andThen_exit, inBlk_normal, inBlk_ret, inBlk_exit, Nat.reduceEqDiff, if_true, if_false, ↓reduceIte, retQ_ret]
                  try simp only [res0, res1, res2, res3, stK_e, go_sem, Φa, hP, h18_71]
                  exact ⟨_, _, Less.drops (Less.drops (Less.drops (Less.drops (Less.sublist ((List.sublist_cons_self _ _).trans (List.sublist_append_right _ _)))))), rfl, rfl, rfl⟩

end Go.Proofs.YtpakphgeichopaaDoor
set_option linter.unusedVariables false
set_option linter.unusedSimpArgs false
namespace Go.Proofs.YtpakphgeichopaaDoor
open Go.RowKit Go.SX
/-! A frame out of its text: a row's bytes, the text's lines. -/
/-- Rows of bytes in memory. -/
structure Rw where
  l : List Int
  v : Value
  s : Slot
def rwV (r : Rw) : List Value := [r.v]
theorem rwV_len (r : Rw) : (rwV r).length = 1 := rfl
def RwsOk (rs : List Rw) : Prop := ∀ r ∈ rs, RowI .u8 5 r.v r.l r.s
theorem RwsOk.nil : RwsOk [] := fun r h => by cases h
theorem RwsOk.app {rs : List Rw} {r : Rw} (h : RwsOk rs) (hr : RowI .u8 5 r.v r.l r.s) : RwsOk (rs ++ [r]) := fun q hq => by
  rcases List.mem_append.1 hq with hq | hq
  · exact h q hq
  · rw [List.mem_singleton.1 hq]; exact hr
def rsl : List Rw → Hp
  | [] => []
  | r :: l => rsl l ++ [r.s]
theorem mem_rsl {rs : List Rw} {r : Rw} (h : r ∈ rs) : r.s ∈ rsl rs := by
  induction rs with
  | nil => cases h
  | cons q rs ih =>
    rw [rsl]
    rcases List.mem_cons.1 h with rfl | h
    · exact List.mem_append_right _ (List.mem_singleton.2 rfl)
    · exact List.mem_append_left _ (ih h)
abbrev RowR (v : Value) (rs : List Rw) (s : Slot) : Prop := RowL rwV 50 1 v rs s
theorem RowR.sl {Γ : Ctx} {L : Hp} {v : Value} {rs : List Rw} {s : Slot} (h : RowR v rs s) (hok : RwsOk rs) (hL : s ∈ L) (hm : ∀ s, s ∈ rsl rs → s ∈ L) : SlR (Cell Γ L) v (rs.map (·.l)) := by
  obtain ⟨i, hi⟩ := List.mem_iff_getElem?.1 hL
  refine Sl.map (RowL.sl rwV_len h hi) fun a r hr hc => ⟨r.v, ?_, ?_⟩
  · have := hc 0 r.v rfl
    simpa [Addr.add_zero'] using this
  · obtain ⟨k, hk⟩ := List.mem_iff_getElem?.1 (hm _ (mem_rsl hr))
    exact RowI.sl (hok r hr) hk
end Go.Proofs.YtpakphgeichopaaDoor
set_option linter.unusedVariables false
set_option linter.unusedSimpArgs false
namespace Go.Proofs.YtpakphgeichopaaDoor
open Go.RowKit Go.SX Go.Proofs
theorem lessI {a : Slot} {R : Hp} : Less (a :: R) (a :: Option.none :: R) := (Less.none _).trans (Less.perm (.swap _ _ _))
end Go.Proofs.YtpakphgeichopaaDoor
set_option linter.unusedVariables false
set_option linter.unusedSimpArgs false
namespace Go.Proofs.YtpakphgeichopaaDoor
open Go.RowKit Go.SX Go.Proofs

theorem tmod_nat (a b : Nat) : ((a : Int)).tmod (b : Int) = ((a % b : Nat) : Int) := by
  rw [Int.tmod_eq_emod_of_nonneg (Int.natCast_nonneg _), Int.natCast_emod]
theorem RowF.slM {Γ : Ctx} {L : Hp} {v : Value} {fs : List Ff} {s : Slot} {l : List Fm} (h : RowF v fs s) (hok : FsOk fs) (hl : fs.map (·.1) = l) (hL : s ∈ L) (hm : ∀ s, s ∈ segs fs → s ∈ L) : SlF (Cell Γ L) v l := by
  obtain ⟨i, hi⟩ := List.mem_iff_getElem?.1 hL
  rw [← hl]
  exact RowF.sl h hok hi hm
theorem ofP_bnd (x : Ras) (l : List Rc) : (ofP x l).1.length ≤ 4194304 ∧ ∀ f ∈ (ofP x l).1, cnt f.rows ≤ 4194304 ∧ f.rows.length = 128 := by
  unfold ofP
  split
  · exact ⟨Nat.zero_le _, fun f hf => by cases hf⟩
  · split
    · rename_i h
      have hl := (chkL_zero h).1
      have h1 := stAt_out x l l.length
      have h2 := (stAt_cnt x l l.length).2
      exact ⟨by dsimp only; omega, fun f hf => by have := h2 f hf; omega⟩
    · exact ⟨Nat.zero_le _, fun f hf => by cases hf⟩
theorem ofP_bnd' (x : Ras) (l : List Rc) : (ofP x l).1.length ≤ 9000000000000000000 ∧ ∀ f ∈ (ofP x l).1, cnt f.rows ≤ 9000000000000000000 ∧ f.rows.length ≤ 9000000000000000000 := by
  obtain ⟨h1, h2⟩ := ofP_bnd x l
  exact ⟨by omega, fun f hf => by have := h2 f hf; omega⟩
end Go.Proofs.YtpakphgeichopaaDoor
set_option linter.unusedVariables false
set_option linter.unusedSimpArgs false
namespace Go.Proofs.YtpakphgeichopaaDoor
open Go.RowKit Go.SX Go.Proofs
end Go.Proofs.YtpakphgeichopaaDoor
set_option linter.unusedVariables false
set_option linter.unusedSimpArgs false
set_option linter.unusedSectionVars false
namespace Go.Proofs.YtpakphgeichopaaDoor
open Go.RowKit Go.SX
/-! For 'lists': rows and frames that are written over and grown, in memory of their own. -/
instance : Inhabited Rw := ⟨⟨[], undef, none⟩⟩
/-- A frame and its memory: what its rows are made of, the rows' slice and that slice's slot. -/
structure Gf where
  at_ : Int
  sh : Bool
  rs : List Rw
  v : Value
  s : Slot
instance : Inhabited Gf := ⟨⟨0, false, [], undef, none⟩⟩
def gfV (g : Gf) : List Value := [.int .i64 g.at_, g.v, .bool g.sh]
theorem gfV_len (g : Gf) : (gfV g).length = 3 := rfl
abbrev RowG (v : Value) (gs : List Gf) (s : Slot) : Prop := RowL gfV 41 3 v gs s
def gmV (g : Gf) : List Value := [g.v]
abbrev RowM (v : Value) (gs : List Gf) (s : Slot) : Prop := RowL gmV 39 1 v gs s
def mrk (i : Nat) : Int := ((i % 251 : Nat) : Int)
theorem mrk_byte (i : Nat) : 0 ≤ mrk i ∧ mrk i ≤ 255 := by unfold mrk; omega
theorem mrk_tmod (i : Nat) : (i : Int).tmod 251 = mrk i := tmod_nat i 251
theorem mrk_wrap (i : Nat) : IntKind.u8.wrap (mrk i) = mrk i := wu8 (mrk_byte i)
theorem Row.any {e sz n : Nat} {v : Value} {xs : List Value} {s : Slot} (h : Row e sz v n xs s) :
    ∃ A c b, v = .slice A n c ∧ (n ≤ c ∧ c ≤ 9223372036854775807) ∧ (0 < n → A = some ⟨b, 0, none⟩) ∧ ∀ (Γ : Ctx) (L : Hp) (i : Nat), L[i]? = some s → ∀ j u, xs[j]? = some u → Cell Γ L ⟨b, j, none⟩ u := by
  have h0 := h
  obtain ⟨hl, ⟨rfl, rfl, rfl⟩ | ⟨g, cap, junk, rfl, rfl, hc, hlen⟩⟩ := h
  · refine ⟨none, 0, 0, rfl, ⟨Nat.le_refl _, by decide⟩, fun h => absurd h (Nat.lt_irrefl _), fun Γ L i hi j u hj => ?_⟩
    obtain rfl : xs = [] := List.eq_nil_of_length_eq_zero (by omega)
    cases hj
  · refine ⟨_, cap, g, rfl, hc, fun _ => rfl, fun Γ L i hi j u hj => ?_⟩
    obtain ⟨a, c, e1, _, hcell⟩ := h0.cell (Γ := Γ) hi hj
    cases e1
    rwa [Addr.add_lit, Nat.zero_add] at hcell
theorem RowL.anyL {α : Type} {f : α → List Value} {e sz : Nat} [Inhabited α] {v : Value} {l : List α} {s : Slot} (hf : ∀ x, (f x).length = sz) (h : RowL f e sz v l s) :
    ∃ A c b, v = .slice A l.length c ∧ (l.length ≤ c ∧ c ≤ 9223372036854775807) ∧ (0 < l.length → A = some ⟨b, 0, none⟩) ∧ ∀ (Γ : Ctx) (L : Hp) (i : Nat), L[i]? = some s → ∀ j, j < l.length → ∀ k u, k < sz → (f (l.getD j default))[k]? = some u → Cell Γ L ⟨b, j * sz + k, none⟩ u := by
  obtain ⟨A, c, a1, h1, h2, h3, h4⟩ := Row.any h
  exact ⟨A, c, a1, h1, h2, h3, fun Γ L i hi j hj k u hk hu => h4 Γ L i hi _ u (by rw [flat_at hf (getD_get (d := default) hj) hk]; exact hu)⟩
theorem RowI.any {k : IntKind} {e : TypeId} {v : Value} {l : List Int} {s : Slot} (h : RowI k e v l s) :
    ∃ A c b, v = .slice A l.length c ∧ (l.length ≤ c ∧ c ≤ 9223372036854775807) ∧ (0 < l.length → A = some ⟨b, 0, none⟩) ∧ ∀ (Γ : Ctx) (L : Hp) (i : Nat), L[i]? = some s → ∀ j, j < l.length → Cell Γ L ⟨b, j, none⟩ (.int k (l.getD j 0)) := by
  obtain ⟨A, c, a1, h1, h2, h3, h4⟩ := Row.any h
  exact ⟨A, c, a1, h1, h2, h3, fun Γ L i hi j hj => h4 Γ L i hi _ _ (by rw [SX.ints_at, getD_get (d := 0) hj]; rfl)⟩
theorem SrcV.row {Γ : Ctx} {L : Hp} {e sz n i : Nat} {tx : TypeId} {v : Value} {xs : List Value} {s : Slot} (ht : (elS Γ.P tx).isSome = true) (h : Row e sz v n xs s) (hL : L[i]? = some s) (h1 : oneB xs = true) : SrcV Γ L sz tx v n xs := by
  obtain ⟨hl, ⟨rfl, rfl, rfl⟩ | ⟨g, cap, junk, rfl, rfl, hc, hlen⟩⟩ := h
  · obtain rfl : xs = [] := List.eq_nil_of_length_eq_zero (by omega)
    exact SrcV.nil ht
  · refine SrcV.slice ht hl (fun j u hj => ?_) h1
    rw [Addr.add_lit, Nat.zero_add]
    refine Cell.own i hL ?_
    have hlt := (List.getElem?_eq_some_iff.1 hj).1
    simp [List.getElem?_append_left hlt, hj]
section
variable {α : Type} [Inhabited α] {f : α → Slot}
theorem mapS_at {l : List α} {R : Hp} {i : Nat} (h : i < l.length) : (l.map f ++ R)[i]? = some (f (l.getD i default)) := by
  rw [List.getElem?_append_left (by rw [List.length_map]; exact h), List.getElem?_map, getD_get (d := default) h]
  rfl
theorem mapS_set {l : List α} {R : Hp} {i : Nat} {y : α} (h : i < l.length) : (l.map f ++ R).set i (f y) = (l.set i y).map f ++ R := by
  rw [List.set_append_left _ _ (by rw [List.length_map]; exact h), List.map_set]
theorem mapS_set2 {l : List α} {R : Hp} {i : Nat} {x y : α} (h : i < l.length) : ((l.set i x).map f ++ R).set i (f y) = (l.set i y).map f ++ R := by
  rw [mapS_set (by rw [List.length_set]; exact h), List.set_set]
theorem set_self {l : List α} {i : Nat} (h : i < l.length) : l.set i (l.getD i default) = l := by
  refine List.ext_getElem? fun j => ?_
  rw [List.getElem?_set]
  by_cases hj : i = j
  · subst hj
    rw [if_pos rfl, if_pos h, getD_get (d := default) h]
  · rw [if_neg hj]
theorem take_set_succ {l : List α} {i : Nat} {y : α} (h : i < l.length) : (l.set i y).take (i + 1) = l.take i ++ [y] := by
  rw [List.take_add_one, List.take_set, List.set_eq_of_length_le (by rw [List.length_take]; omega), List.getElem?_set, if_pos rfl, if_pos h]
  rfl
theorem getD_set {l : List α} {i j : Nat} {y : α} (h : i < l.length) : (l.set i y).getD j default = if i = j then y else l.getD j default := by
  rw [set_getD]
  by_cases hj : i = j
  · rw [if_pos ⟨hj, h⟩, if_pos hj]
  · rw [if_neg (fun hh => hj hh.1), if_neg hj]
end
/-- Every row is filled with its mark, up to row i. -/
structure S2 (rws Ws : List Rw) (i : Nat) : Prop where
  n : Ws.length = rws.length
  v : ∀ j, j < rws.length → (Ws.getD j default).v = (rws.getD j default).v
  ln : ∀ j, j < rws.length → (Ws.getD j default).l.length = (rws.getD j default).l.length
  ok : ∀ j, j < rws.length → RowI .u8 5 (Ws.getD j default).v (Ws.getD j default).l (Ws.getD j default).s
  fill : ∀ j, j < i → j < rws.length → ∀ x ∈ (Ws.getD j default).l, x = mrk j
theorem S2.start {rws : List Rw} (h : RwsOk rws) : S2 rws rws 0 where
  n := rfl
  v _ _ := rfl
  ln _ _ := rfl
  ok j hj := h _ (List.mem_of_getElem? (getD_get (d := default) hj))
  fill j hj := absurd hj (Nat.not_lt_zero _)
theorem S2.next {rws Ws : List Rw} {i : Nat} (h : S2 rws Ws i) (hi : i < rws.length) (hp : ∀ k, k < (rws.getD i default).l.length → (Ws.getD i default).l.getD k 0 = mrk i) : S2 rws Ws (i + 1) where
  n := h.n
  v := h.v
  ln := h.ln
  ok := h.ok
  fill j hj hjl x hx := by
    rcases Nat.lt_succ_iff_lt_or_eq.1 hj with hj | rfl
    · exact h.fill j hj hjl x hx
    · obtain ⟨k, hk⟩ := List.mem_iff_getElem?.1 hx
      have hkl := (List.getElem?_eq_some_iff.1 hk).1
      have := hp k (by rw [← h.ln j hi]; exact hkl)
      rwa [List.getD_eq_getElem?_getD, hk] at this
theorem S2.put {rws Ws : List Rw} {i : Nat} (h : S2 rws Ws i) (hi : i < rws.length) {w : Rw} (hv : w.v = (rws.getD i default).v) (hl : w.l.length = (rws.getD i default).l.length) (hr : RowI .u8 5 w.v w.l w.s) : S2 rws (Ws.set i w) i := by
  have hn := h.n
  have g : ∀ j, (Ws.set i w).getD j default = if i = j then w else Ws.getD j default := fun j => getD_set (by omega)
  constructor
  · rw [List.length_set]; exact hn
  · intro j hj; rw [g]; split
    · rename_i e; subst e; exact hv
    · exact h.v j hj
  · intro j hj; rw [g]; split
    · rename_i e; subst e; exact hl
    · exact h.ln j hj
  · intro j hj; rw [g]; split
    · exact hr
    · exact h.ok j hj
  · intro j hji hj; rw [g, if_neg (by omega)]; exact h.fill j hji hj
/-- Rows up to i are grown by twelve. -/
structure S3 (rws Ws : List Rw) (i : Nat) : Prop where
  n : Ws.length = rws.length
  v : ∀ j, i ≤ j → j < rws.length → (Ws.getD j default).v = (rws.getD j default).v
  ln : ∀ j, j < rws.length → (Ws.getD j default).l.length ≤ (rws.getD j default).l.length + 12
  ln0 : ∀ j, i ≤ j → j < rws.length → (Ws.getD j default).l.length ≤ (rws.getD j default).l.length
  ok : ∀ j, j < rws.length → RowI .u8 5 (Ws.getD j default).v (Ws.getD j default).l (Ws.getD j default).s
  fill : ∀ j, j < rws.length → ∀ x ∈ (Ws.getD j default).l, x = mrk j
theorem S3.start {rws Ws : List Rw} (h : S2 rws Ws rws.length) : S3 rws Ws 0 where
  n := h.n
  v j _ hj := h.v j hj
  ln j hj := by have := h.ln j hj; omega
  ln0 j _ hj := by have := h.ln j hj; omega
  ok := h.ok
  fill j hj := h.fill j hj hj
theorem S3.next {rws Ws : List Rw} {i : Nat} (h : S3 rws Ws i) (hi : i < rws.length) {w : Rw} (hl : w.l.length ≤ (rws.getD i default).l.length + 12) (hr : RowI .u8 5 w.v w.l w.s) (hf : ∀ x ∈ w.l, x = mrk i) : S3 rws (Ws.set i w) (i + 1) := by
  have hn := h.n
  have g : ∀ j, (Ws.set i w).getD j default = if i = j then w else Ws.getD j default := fun j => getD_set (by omega)
  constructor
  · rw [List.length_set]; exact hn
  · intro j hij hj; rw [g, if_neg (by omega)]; exact h.v j (by omega) hj
  · intro j hj; rw [g]; split
    · rename_i e; subst e; exact hl
    · exact h.ln j hj
  · intro j hij hj; rw [g, if_neg (by omega)]; exact h.ln0 j (by omega) hj
  · intro j hj; rw [g]; split
    · exact hr
    · exact h.ok j hj
  · intro j hj; rw [g]; split
    · rename_i e; subst e; exact hf
    · exact h.fill j hj
/-- A row that was written over. -/
def Tw (R : Hp) (m : Int) (w : Rw) : Prop := w.l = [m, 7] ∧ RowI .u8 5 w.v w.l w.s ∧ w.s ∈ R
theorem Tw.cons {R : Hp} {m : Int} {w : Rw} (s : Slot) (h : Tw R m w) : Tw (s :: R) m w := ⟨h.1, h.2.1, List.mem_cons_of_mem _ h.2.2⟩
abbrev twR (b : Nat) (m : Int) : Rw := ⟨[m, 7], .slice (some ⟨b, 0, none⟩) 2 2, some (b, .cells [.int .u8 m, .int .u8 7].toArray 5 (0, 0))⟩
theorem Tw.new (R : Hp) (b : Nat) (m : Int) : Tw ((twR b m).s :: R) m (twR b m) := ⟨rfl, Row.lit (xs := SX.ints .u8 [m, 7]) rfl (by decide), List.mem_cons_self ..⟩
structure S5 (gs Gs : List Gf) (R : Hp) (i : Nat) : Prop where
  n : Gs.length = gs.length
  v : ∀ j, j < gs.length → (Gs.getD j default).v = (gs.getD j default).v
  ln : ∀ j, j < gs.length → (Gs.getD j default).rs.length = (gs.getD j default).rs.length
  ok : ∀ j, j < gs.length → RowR (Gs.getD j default).v (Gs.getD j default).rs (Gs.getD j default).s
  two : ∀ j, j < i → j < gs.length → ∀ w ∈ (Gs.getD j default).rs, Tw R (mrk j) w
def GsOk (gs : List Gf) : Prop := ∀ j, j < gs.length → RowR (gs.getD j default).v (gs.getD j default).rs (gs.getD j default).s
theorem S5.start {gs : List Gf} (R : Hp) (h : GsOk gs) : S5 gs gs R 0 where
  n := rfl
  v _ _ := rfl
  ln _ _ := rfl
  ok := h
  two j hj := absurd hj (Nat.not_lt_zero _)
theorem S5.next {gs Gs : List Gf} {R : Hp} {i : Nat} (h : S5 gs Gs R i) (hi : i < gs.length) (hp : ∀ k, k < (gs.getD i default).rs.length → Tw R (mrk i) ((Gs.getD i default).rs.getD k default)) : S5 gs Gs R (i + 1) where
  n := h.n
  v := h.v
  ln := h.ln
  ok := h.ok
  two j hj hjl w hw := by
    rcases Nat.lt_succ_iff_lt_or_eq.1 hj with hj | rfl
    · exact h.two j hj hjl w hw
    · obtain ⟨k, hk⟩ := List.mem_iff_getElem?.1 hw
      have hkl := (List.getElem?_eq_some_iff.1 hk).1
      have := hp k (by rw [← h.ln j hi]; exact hkl)
      rwa [List.getD_eq_getElem?_getD, hk] at this
theorem S5.put {gs Gs : List Gf} {R : Hp} {i : Nat} (h : S5 gs Gs R i) (hi : i < gs.length) (s : Slot) {g : Gf} (hv : g.v = (gs.getD i default).v) (hl : g.rs.length = (gs.getD i default).rs.length) (hr : RowR g.v g.rs g.s) : S5 gs (Gs.set i g) (s :: R) i := by
  have hn := h.n
  have e : ∀ j, (Gs.set i g).getD j default = if i = j then g else Gs.getD j default := fun j => getD_set (by omega)
  constructor
  · rw [List.length_set]; exact hn
  · intro j hj; rw [e]; split
    · rename_i e; subst e; exact hv
    · exact h.v j hj
  · intro j hj; rw [e]; split
    · rename_i e; subst e; exact hl
    · exact h.ln j hj
  · intro j hj; rw [e]; split
    · exact hr
    · exact h.ok j hj
  · intro j hji hj w hw; rw [e, if_neg (by omega)] at hw; exact (h.two j hji hj w hw).cons s
structure S6 (gs Gs : List Gf) (R : Hp) (i : Nat) : Prop where
  n : Gs.length = gs.length
  v : ∀ j, i ≤ j → j < gs.length → (Gs.getD j default).v = (gs.getD j default).v
  ln : ∀ j, j < gs.length → (Gs.getD j default).rs.length ≤ (gs.getD j default).rs.length + 9
  ln0 : ∀ j, i ≤ j → j < gs.length → (Gs.getD j default).rs.length ≤ (gs.getD j default).rs.length
  ok : ∀ j, j < gs.length → RowR (Gs.getD j default).v (Gs.getD j default).rs (Gs.getD j default).s
  two : ∀ j, j < gs.length → ∀ w ∈ (Gs.getD j default).rs, Tw R (mrk j) w
theorem S6.start {gs Gs : List Gf} {R : Hp} (h : S5 gs Gs R gs.length) : S6 gs Gs R 0 where
  n := h.n
  v j _ hj := h.v j hj
  ln j hj := by have := h.ln j hj; omega
  ln0 j _ hj := by have := h.ln j hj; omega
  ok := h.ok
  two j hj := h.two j hj hj
theorem S6.cons {gs Gs : List Gf} {R : Hp} {i : Nat} (h : S6 gs Gs R i) (s : Slot) : S6 gs Gs (s :: R) i where
  n := h.n
  v := h.v
  ln := h.ln
  ln0 := h.ln0
  ok := h.ok
  two j hj w hw := (h.two j hj w hw).cons s
theorem S6.next {gs Gs : List Gf} {R : Hp} {i : Nat} (h : S6 gs Gs R i) (hi : i < gs.length) {g : Gf} (hl : g.rs.length ≤ (gs.getD i default).rs.length + 9) (hr : RowR g.v g.rs g.s) (hf : ∀ w ∈ g.rs, Tw R (mrk i) w) : S6 gs (Gs.set i g) R (i + 1) := by
  have hn := h.n
  have e : ∀ j, (Gs.set i g).getD j default = if i = j then g else Gs.getD j default := fun j => getD_set (by omega)
  constructor
  · rw [List.length_set]; exact hn
  · intro j hij hj; rw [e, if_neg (by omega)]; exact h.v j (by omega) hj
  · intro j hj; rw [e]; split
    · rename_i e; subst e; exact hl
    · exact h.ln j hj
  · intro j hij hj; rw [e, if_neg (by omega)]; exact h.ln0 j (by omega) hj
  · intro j hj; rw [e]; split
    · exact hr
    · exact h.ok j hj
  · intro j hj; rw [e]; split
    · rename_i e; subst e; exact hf
    · exact h.two j hj
def rowsG (gs : List Gf) : List Rw := gs.flatMap (·.rs)
theorem rowsG_take {gs : List Gf} {i : Nat} (h : i < gs.length) : rowsG (gs.take (i + 1)) = rowsG (gs.take i) ++ (gs.getD i default).rs := by
  unfold rowsG
  rw [List.take_add_one, List.flatMap_append, getD_get (d := default) h]
  simp
theorem rowsG_take_le (gs : List Gf) (i : Nat) : (rowsG (gs.take i)).length ≤ (rowsG gs).length := by
  have h : rowsG gs = rowsG (gs.take i) ++ rowsG (gs.drop i) := by unfold rowsG; rw [← List.flatMap_append, List.take_append_drop]
  rw [h, List.length_append]
  omega
theorem rowsG_at_le {gs : List Gf} {i : Nat} (h : i < gs.length) : (rowsG (gs.take i)).length + (gs.getD i default).rs.length ≤ (rowsG gs).length := by
  have h1 := rowsG_take h
  have h2 := rowsG_take_le gs (i + 1)
  rw [h1, List.length_append] at h2
  exact h2
abbrev wSet (w : Rw) (k : Nat) (x : Int) (r : Nat) (junk : List Value) : Rw := ⟨w.l.set k x, w.v, some (r, .cells (SX.ints .u8 (w.l.set k x) ++ junk).toArray 5 (0, 0))⟩
theorem wSet_ok {w : Rw} {k r cap : Nat} {x : Int} {junk : List Value} (hv : w.v = .slice (some ⟨r, 0, none⟩) w.l.length cap) (hc : w.l.length ≤ cap ∧ cap ≤ 9223372036854775807) (hj : w.l.length + junk.length = cap) : RowI .u8 5 (wSet w k x r junk).v (wSet w k x r junk).l (wSet w k x r junk).s := by
  have h := RowI.mk2 (k := .u8) (e := 5) (l := w.l.set k x) (r := r) (cap := cap) (junk := junk) (by rw [List.length_set]; exact hc) (by rw [List.length_set]; exact hj)
  rw [List.length_set] at h
  show RowI .u8 5 w.v _ _
  rw [hv]
  exact h
theorem rwV_map (rs : List Rw) : rs.flatMap rwV = rs.map Rw.v := by
  induction rs with
  | nil => rfl
  | cons r rs ih => rw [List.flatMap_cons, ih]; rfl
theorem rwV_set {rs : List Rw} {k : Nat} {x : Rw} {junk : List Value} (h : k < rs.length) : (rs.flatMap rwV ++ junk).set k x.v = (rs.set k x).flatMap rwV ++ junk := by
  rw [rwV_map, rwV_map, List.set_append_left _ _ (by rw [List.length_map]; exact h), List.map_set]
abbrev gSet (g : Gf) (k : Nat) (x : Rw) (r : Nat) (junk : List Value) : Gf := ⟨g.at_, g.sh, g.rs.set k x, g.v, some (r, .cells ((g.rs.set k x).flatMap rwV ++ junk).toArray 50 (0, 0))⟩
theorem gSet_ok {g : Gf} {k r cap : Nat} {x : Rw} {junk : List Value} (hv : g.v = .slice (some ⟨r, 0, none⟩) g.rs.length cap) (hc : g.rs.length ≤ cap ∧ cap ≤ 9223372036854775807) (hj : (g.rs.flatMap rwV ++ junk).length = cap * 1) : RowR (gSet g k x r junk).v (gSet g k x r junk).rs (gSet g k x r junk).s := by
  have h := RowL.mk (f := rwV) (e := 50) (sz := 1) (l := g.rs.set k x) (g := r) (cap := cap) (junk := junk) rwV_len (by rw [List.length_set]; exact hc) (by rw [List.length_append, flat_len rwV_len, List.length_set]; rw [List.length_append, flat_len rwV_len] at hj; exact hj)
  rw [List.length_set] at h
  show RowR g.v _ _
  rw [hv]
  exact h
theorem oneB_rws {ws : List Rw} (h : RwsOk ws) : oneB (ws.flatMap rwV) = true := by
  rw [rwV_map]
  unfold oneB
  rw [List.all_eq_true]
  intro u hu
  obtain ⟨w, hw, rfl⟩ := List.mem_map.1 hu
  obtain ⟨A, c, hv, _, _⟩ := Row.form (h w hw)
  rw [hv]
  rfl
theorem RowR.anyR {v : Value} {ws : List Rw} {s : Slot} (h : RowR v ws s) :
    ∃ A c b, v = .slice A ws.length c ∧ (ws.length ≤ c ∧ c ≤ 9223372036854775807) ∧ (0 < ws.length → A = some ⟨b, 0, none⟩) ∧ ∀ (Γ : Ctx) (L : Hp) (i : Nat), L[i]? = some s → ∀ j, j < ws.length → Cell Γ L ⟨b, j, none⟩ (ws.getD j default).v := by
  obtain ⟨A, c, a1, h1, h2, h3, h4⟩ := RowL.anyL rwV_len h
  exact ⟨A, c, a1, h1, h2, h3, fun Γ L i hi j hj => by have := h4 Γ L i hi j hj 0 _ (by decide) rfl; rwa [Nat.mul_one, Nat.add_zero] at this⟩
theorem RowM.anyM {v : Value} {ws : List Gf} {s : Slot} (h : RowM v ws s) :
    ∃ A c b, v = .slice A ws.length c ∧ (ws.length ≤ c ∧ c ≤ 9223372036854775807) ∧ (0 < ws.length → A = some ⟨b, 0, none⟩) ∧ ∀ (Γ : Ctx) (L : Hp) (i : Nat), L[i]? = some s → ∀ j, j < ws.length → Cell Γ L ⟨b, j, none⟩ (ws.getD j default).v := by
  obtain ⟨A, c, a1, h1, h2, h3, h4⟩ := RowL.anyL (f := gmV) (fun _ => rfl) h
  exact ⟨A, c, a1, h1, h2, h3, fun Γ L i hi j hj => by have := h4 Γ L i hi j hj 0 _ (by decide) rfl; rwa [Nat.mul_one, Nat.add_zero] at this⟩
theorem rwsOk_at {gs : List Gf} (h : RwsOk (rowsG gs)) {i : Nat} (hi : i < gs.length) : RwsOk (gs.getD i default).rs := fun w hw =>
  h w (List.mem_flatMap.2 ⟨_, List.mem_of_getElem? (getD_get (d := default) hi), hw⟩)
theorem getD_mem {α : Type} [Inhabited α] {l : List α} {i : Nat} (h : i < l.length) : l.getD i default ∈ l := List.mem_of_getElem? (getD_get (d := default) h)
theorem getD_memI {l : List Int} {i : Nat} (h : i < l.length) : l.getD i 0 ∈ l := List.mem_of_getElem? (getD_get (d := 0) h)
theorem lessG3 {a b : Slot} {R : Hp} : Less (a :: b :: R) (a :: b :: Option.none :: R) := (Less.none _).trans (Less.perm ((List.Perm.swap _ _ _).trans (.cons _ (.swap _ _ _))))
theorem lessD4 {a b c : Slot} {M N : Hp} : Less (a :: b :: c :: (M ++ N)) (a :: N) := Less.sublist (.cons_cons _ (.cons _ (.cons _ (List.sublist_append_right M N))))
theorem less5 {a b : Slot} {M R : Hp} : Less (a :: b :: (M ++ R)) (b :: (M ++ a :: R)) := by
  refine Less.perm ?_
  exact (List.Perm.swap _ _ _).trans (.cons _ List.perm_middle.symm)
theorem less6 {z a b c : Slot} {M R : Hp} : Less (z :: a :: b :: c :: (M ++ R)) (b :: c :: (M ++ a :: R)) := by
  refine (Less.drop _ _).trans (Less.perm ?_)
  exact (List.Perm.swap _ _ _).trans (.cons _ ((List.Perm.swap _ _ _).trans (.cons _ List.perm_middle.symm)))
theorem lessEnd {a b : Slot} {M R L : Hp} (h : Less R L) : Less (a :: b :: (M ++ R)) L := (Less.sublist (.cons _ (.cons _ (List.sublist_append_right M R)))).trans h
end Go.Proofs.YtpakphgeichopaaDoor
