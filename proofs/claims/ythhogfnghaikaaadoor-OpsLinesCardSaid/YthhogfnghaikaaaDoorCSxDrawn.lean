/- A part of the proof of OpsLinesCardSaid. -/
import Derived.Test.YthhogfnghaikaaaDoorCSxRegion
import Derived.StillTail
set_option linter.unusedVariables false
set_option linter.unusedSimpArgs false
namespace Go.SX
open Go.RowKit

/-! A region that draws its order, some of its operations having effects: the quiet ones are taken first where they may, an operation with an effect when nothing else may come up. -/
inductive Kd where
  | q | c | e | t
  deriving DecidableEq

def Same (ops : Array Oper) (o : Oper) (a a' : Act) : Prop :=
  execOp a'.eval o = execOp a.eval o ∧ Region.wanted o (yielded ops a'.tmps) = Region.wanted o (yielded ops a.tmps)

section
variable {P : Program} {ops : Array Oper} {Q : Exit → Act → World → Prop} {tl : List Nat}

theorem wpOp_putS {j : Nat} {oi oj : Oper} {v : Value} (hj : ops[j]? = some oj) (hap : oi.apart ops oj = true)
    (hsi : ∀ cs b, oi.op ≠ .select cs b) (hsj : ∀ cs b, oj.op ≠ .select cs b)
    (hQ : ∀ c a w, Q (.panic c) (a.put oi.dst v) w → Q (.panic c) a w) {K : Act → World → Prop} {a : Act} {w : World}
    (h : wpOp P ops Q j K (a.put oi.dst v) w) :
    wpOp P ops Q j (fun a' w' => Same ops oi a a' ∧ K (a'.put oi.dst v) w') a w := by
  obtain ⟨h1, h2, h3⟩ := Oper.apart_spec hap
  have keep : ∀ (a : Act) u, Same ops oi a (a.put oj.dst u) := fun a u => ⟨execOp_put oi hsi a oj.dst u h3, wanted_put oi a oj.dst u h3⟩
  have keepD : ∀ (a : Act) d u, Same ops oi a (Act.put { a with defers := d :: a.defers } oj.dst u) := fun a d u => ⟨execOp_put oi hsi _ oj.dst u h3, wanted_put oi _ oj.dst u h3⟩
  unfold wpOp at *
  simp only [hj] at *
  rw [wanted_put oj a oi.dst v h1] at h
  split
  · rename_i hw
    simp only [hw, if_true] at h
    rcases h with h | ⟨hasks, hlets⟩
    case inr => exact .inr ⟨by unfold Oper.asks at *; rw [execOp_put oj hsj a oi.dst v h1] at hasks; exact hasks, hlets⟩
    refine .inl ?_
    unfold Oper.wp at *
    rw [execOp_put oj hsj a oi.dst v h1] at h
    generalize (execOp a.eval oj).run P w = r at *
    cases r with
    | ok n w' =>
      cases n <;> simp only [Oper.upon] at h ⊢
      case value u => exact ⟨keep a u, by rw [← Act.put_comm a v u h2]; exact h⟩
      case skip => exact ⟨keep a _, by rw [← Act.put_comm a v undef h2]; exact h⟩
      case defer d =>
        refine ⟨keepD _ _ _, ?_⟩
        rw [← Act.put_comm _ v undef h2, ← Act.put_defers]
        exact h
      case enter f args =>
        refine Calls.mono h fun e w'' he => ?_
        cases e with
        | returned u => exact ⟨keep a u, by rw [← Act.put_comm a v u h2]; exact he⟩
        | panicked c => exact hQ _ _ _ he
        | outgrown => exact he
      case row row args => exact Rows.mono h fun u w'' he => ⟨keep a u, by rw [← Act.put_comm a v u h2]; exact he⟩
    | halt x w' =>
      cases x <;> simp only [Oper.upon] at h ⊢
      case panic u => exact hQ _ _ _ h
  · rename_i hw
    simp only [hw] at h
    exact ⟨keep a _, by rw [← Act.put_comm a v undef h2]; exact h⟩

def Closed (ops : Array Oper) (listed : Array Bool) : Prop :=
  ∀ j oj, ops[j]? = some oj → listed.getD j false = true → ∀ e ∈ oj.after, Region.binds .any e = true → listed.getD e.on false = true
theorem Closed.zero (m : Nat) : Closed ops (Array.replicate m false) := fun j oj _ hl => by rw [getD_replicate_false] at hl; cases hl
theorem Closed.set {i : Nat} {listed : Array Bool} (h : Closed ops listed) (hi : i ∈ Region.ready .any ops listed) : Closed ops (listed.setIfInBounds i true) := by
  obtain ⟨_, oi, hoi, hall⟩ := mem_ready.1 hi
  intro j oj hj hl e he hb
  by_cases hij : i = j
  · subst hij
    have : oj = oi := Option.some.inj (hj.symm.trans hoi)
    subst this
    exact getD_set_true (hall e he hb)
  · rw [getD_set_ne false hij] at hl
    exact getD_set_true (h j oj hj hl e he hb)

def reach (ops : Array Oper) : Nat → Nat → Nat → Bool
  | 0, _, _ => false
  | f + 1, j, k => match ops[j]? with
    | some o => o.after.any fun e => Region.binds .any e && (e.on == k || reach ops f e.on k)
    | none => false
theorem reach_listed {listed : Array Bool} (hc : Closed ops listed) {k : Nat} : ∀ (f j : Nat) (oj : Oper), ops[j]? = some oj → reach ops f j k = true → (∀ e ∈ oj.after, Region.binds .any e = true → listed.getD e.on false = true) → listed.getD k false = true := by
  intro f
  induction f with
  | zero => intro j oj _ h; simp [reach] at h
  | succ f ih =>
    intro j oj hj h hl
    simp only [reach, hj] at h
    obtain ⟨e, he, hb⟩ := Array.any_eq_true'.1 h
    simp only [Bool.and_eq_true, Bool.or_eq_true, beq_iff_eq] at hb
    have h1 := hl e he hb.1
    rcases hb.2 with h2 | h2
    · rwa [← h2]
    · cases ho : ops[e.on]? with
      | none => cases f <;> simp [reach, ho] at h2
      | some o' => exact ih e.on o' ho h2 (hc _ _ ho h1)

/-- In every world of the class this value. -/
def YV (P : Program) (ops : Array Oper) (C : World → Prop) (o : Oper) (v : Value) (a : Act) : Prop :=
  (Region.wanted o (yielded ops a.tmps) = true ∧ ∀ w, C w → (execOp a.eval o).run P w = .ok (.value v) w) ∨
  (Region.wanted o (yielded ops a.tmps) = false ∧ v = undef)
theorem YV.same {C : World → Prop} {o : Oper} {v : Value} {a a' : Act} (h : YV P ops C o v a) (hs : Same ops o a a') : YV P ops C o v a' := by
  unfold YV at *
  rw [hs.1, hs.2]
  exact h
theorem YV.less {C C' : World → Prop} {o : Oper} {v : Value} {a : Act} (h : YV P ops C o v a) (hc : ∀ w, C' w → C w) : YV P ops C' o v a :=
  h.imp (fun h => ⟨h.1, fun w hw => h.2 w (hc w hw)⟩) id
theorem YV.wpOp {i : Nat} {C : World → Prop} {o : Oper} {v : Value} {a : Act} (hi : ops[i]? = some o) (hy : YV P ops C o v a) {K : Act → World → Prop} {w : World} (hw : C w) (h : K (a.put o.dst v) w) : wpOp P ops Q i K a w := by
  unfold Go.wpOp
  simp only [hi]
  rcases hy with ⟨h1, h2⟩ | ⟨h1, rfl⟩
  · simp only [h1, if_true, Oper.wp, h2 w hw, Oper.upon]; exact .inl h
  · simp only [h1, Bool.false_eq_true, if_false]; exact h

def notCall (ops : Array Oper) (k : Nat) : Bool := match ops[k]? with | some o => !isCallV o | none => false
def tails : List (Nat × Kd) → List Nat
  | [] => []
  | (k, .t) :: r => k :: tails r
  | _ :: r => tails r
def okPlan (ops : Array Oper) (tl : List Nat) : Bool → List (Nat × Kd) → Array Bool → Bool
  | _, [], listed => (Region.ready .any ops listed).isEmpty
  | td, (k, .q) :: r, listed => !td && (Region.ready .any ops listed).contains k && Region.free .any ops listed k && notCall ops k && tl.all (fun t => reach ops ops.size t k) && okPlan ops tl td r (listed.setIfInBounds k true)
  | td, (k, .c) :: r, listed => !td && (Region.ready .any ops listed).contains k && Region.free .any ops listed k && tl.all (fun t => reach ops ops.size t k) && okPlan ops tl td r (listed.setIfInBounds k true)
  | td, (k, .e) :: r, listed => !td && !tl.contains k && decide (Region.ready .any ops listed = [k]) && okPlan ops tl td r (listed.setIfInBounds k true)
  | _, (k, .t) :: r, listed => decide (Region.ready .any ops listed = [k]) && tl.contains k && okPlan ops tl true r (listed.setIfInBounds k true)
def planB (ops : Array Oper) (pl : List (Nat × Kd)) : Bool := Region.noSelect ops && decide (pl.length = ops.size) && okPlan ops (tails pl) false pl (Array.replicate ops.size false)
end

/-- A region in a planned order: G is what of the heap the quiet operations look at. -/
def VCplan (Γ : Ctx) (n : Nat) (ops : Array Oper) (G : Hp → Hp) : List (Nat × Kd) → (Env → Hp → Prop) → Env → Hp → Prop
  | [], K, T, L => K T L
  | (k, d) :: r, K, T, L => match ops.toList[k]? with
    | none => False
    | some o => match d with
      | .q => guardVC ops o.guard T (fun T => VQ Γ o T (G L) (fun v => putVC n o.dst v T (fun T => VCplan Γ n ops G r K T L))) (fun T => putVC n o.dst undef T (fun T => VCplan Γ n ops G r K T L))
      | .c => guardVC ops o.guard T (fun T => ∃ v, (∀ L0, Less L0 (G L) → VC Γ o T L0 (fun u L1 => u = v ∧ L1 = L0)) ∧ putVC n o.dst v T (fun T => VCplan Γ n ops G r K T L)) (fun T => putVC n o.dst undef T (fun T => VCplan Γ n ops G r K T L))
      | .e => guardVC ops o.guard T (fun T => VC Γ o T L (fun v L' => putVC n o.dst v T (fun T => (Less L' (G L') ∧ Less (G L') (G L)) ∧ VCplan Γ n ops G r K T L'))) (fun T => putVC n o.dst undef T (fun T => VCplan Γ n ops G r K T L))
      | .t => guardVC ops o.guard T (fun T => VC Γ o T L (fun v L' => putVC n o.dst v T (fun T => VCplan Γ n ops G r K T L'))) (fun T => putVC n o.dst undef T (fun T => VCplan Γ n ops G r K T L))

section
variable {Γ : Ctx} {n : Nat} {T : Env} {L : Hp} {Q : Exit → Env → Hp → Prop}

theorem eff_wpOp {ops : Array Oper} {Q : Exit → Act → World → Prop} {i : Nat} {o : Oper} {a : Act} {w : World} {R : Env → Hp → Prop} {N : Env → Hp → Prop} (hi : ops[i]? = some o) (hf : Fits n T a) (hI : Inv Γ L w)
    (h : guardVC ops o.guard T (fun T => VC Γ o T L (fun v L' => putVC n o.dst v T (fun T => R T L'))) (fun T => putVC n o.dst undef T (fun T => N T L))) :
    wpOp Γ.P ops Q i (fun a' w' => ∃ T' L', Fits n T' a' ∧ Inv Γ L' w' ∧ (R T' L' ∨ L' = L ∧ N T' L)) a w := by
  unfold wpOp
  simp only [hi]
  rcases guardVC_sound hf h with ⟨hw, h⟩ | ⟨hw, h⟩
  · have hy := VC_sound h w hI
    rw [← hf.eval] at hy
    simp only [hw, if_true]
    refine .inl ?_
    unfold Oper.wp
    revert hy
    generalize (execOp a.eval o).run Γ.P w = r
    intro hy
    cases r with
    | halt x w' => exact hy.elim
    | ok nx w' =>
      cases nx <;> first | exact hy.elim | skip
      case value v =>
        obtain ⟨L', hi', hk'⟩ := hy
        obtain ⟨T', hf', hk'⟩ := putVC_sound hf hk'
        exact ⟨T', L', hf', hi', .inl hk'⟩
      case skip =>
        obtain ⟨L', hi', hk'⟩ := hy
        obtain ⟨T', hf', hk'⟩ := putVC_sound hf hk'
        exact ⟨T', L', hf', hi', .inl hk'⟩
      case enter f args =>
        simp only [Oper.upon]
        refine Calls.mono hy ?_
        rintro e w'' ⟨v, L', rfl, hi', hk'⟩
        obtain ⟨T', hf', hk'⟩ := putVC_sound hf hk'
        exact ⟨T', L', hf', hi', .inl hk'⟩
  · simp only [hw, Bool.false_eq_true, if_false]
    obtain ⟨T', hf', hk'⟩ := putVC_sound hf h
    exact ⟨T', L, hf', hI, .inr ⟨rfl, hk'⟩⟩

def onlyNormal (Q : Act → World → Prop) : Exit → Act → World → Prop
  | .normal, a, w => Q a w
  | _, _, _ => False

/-- Whatever comes up: in every world of the class L; M is what of it the quiet operations and the calls look at. -/
def AnyL (Γ : Ctx) (ops : Array Oper) (Q : Exit → Act → World → Prop) (tl : List Nat) : Nat → Array Bool → Hp → Hp → Act → Prop
  | 0, listed, _, L, a => Region.ready .any ops listed = [] ∧ ∀ w, Inv Γ L w → Q .normal a w
  | f + 1, listed, M, L, a => (Region.ready .any ops listed = [] → ∀ w, Inv Γ L w → Q .normal a w) ∧
    ∀ i ∈ Region.ready .any ops listed, ∀ w, Inv Γ L w → wpOp Γ.P ops Q i (fun a' w' => ∃ M' L' : Hp, Inv Γ L' w' ∧ Less L' M' ∧ (i ∉ tl → Less M' M) ∧ AnyL Γ ops Q tl f (listed.setIfInBounds i true) M' L' a') a w

theorem AnyL.any {ops : Array Oper} {Q : Exit → Act → World → Prop} {tl : List Nat} : ∀ (f : Nat) (listed : Array Bool) (M L : Hp) (a : Act) (w : World), AnyL Γ ops Q tl f listed M L a → Inv Γ L w → wpAny Γ.P .any ops Q f listed a w
  | 0, _, _, _, _, w, h, hi => ⟨h.1, h.2 w hi⟩
  | f + 1, _, _, _, _, w, h, hi => ⟨fun h0 => h.1 h0 w hi, fun i hm => wpOp_mono (fun _ _ ⟨_, _, hi', _, _, h'⟩ => AnyL.any f _ _ _ _ _ h' hi') (h.2 i hm w hi)⟩

/-- An operation that gives this value in whatever world of the class, and keeps every class below it. -/
def StepV (Γ : Ctx) (ops : Array Oper) (Q : Exit → Act → World → Prop) (i : Nat) (o : Oper) (v : Value) (M : Hp) (a : Act) : Prop :=
  ∀ a', Same ops o a a' → ∀ L0 w, Less L0 M → Inv Γ L0 w → ∀ K : Act → World → Prop, (∀ w', Inv Γ L0 w' → K (a'.put o.dst v) w') → wpOp Γ.P ops Q i K a' w
theorem StepV.same {ops : Array Oper} {Q : Exit → Act → World → Prop} {i : Nat} {o : Oper} {v : Value} {M M' : Hp} {a a' : Act} (h : StepV Γ ops Q i o v M a) (hs : Same ops o a a') (hm : Less M' M) : StepV Γ ops Q i o v M' a' :=
  fun a'' hs' L0 w hl hi K hK => h a'' ⟨hs'.1.trans hs.1, hs'.2.trans hs.2⟩ L0 w (hl.trans hm) hi K hK
theorem StepV.of_quiet {ops : Array Oper} {Q : Exit → Act → World → Prop} {i : Nat} {o : Oper} {v : Value} {M : Hp} {a : Act} (ho : ops[i]? = some o) (hy : YV Γ.P ops (Inv Γ M) o v a) : StepV Γ ops Q i o v M a :=
  fun a' hs L0 w hl hi K hK => (hy.same hs).wpOp ho (hl _ _ hi) (hK w hi)

theorem AnyL_first {ops : Array Oper} {Q : Exit → Act → World → Prop} {tl : List Nat} {i : Nat} {oi : Oper} {v : Value} (hi : ops[i]? = some oi) (hsel : ∀ (j : Nat) (o : Oper) cs b, ops[j]? = some o → o.op ≠ .select cs b)
    (hQ : ∀ c a w, ¬ Q (.panic c) a w) (g : Nat) (htl : ∀ t ∈ tl, reach ops g t i = true) :
    ∀ (fuel : Nat) (listed : Array Bool) (M L : Hp) (a : Act), Closed ops listed →
      (∀ j oj, ops[j]? = some oj → j ≠ i → listed.getD j true = false → (∀ e ∈ oj.after, Region.binds .any e = true → e.on ≠ i) → oi.apart ops oj = true) →
      i ∈ Region.ready .any ops listed → StepV Γ ops Q i oi v M a → Less L M →
      AnyL Γ ops Q tl fuel (listed.setIfInBounds i true) M L (a.put oi.dst v) → AnyL Γ ops Q tl (fuel + 1) listed M L a := by
  intro fuel
  induction fuel with
  | zero =>
    intro listed M L a _ _ hr hy hl H
    refine ⟨fun h => (by rw [h] at hr; cases hr), fun j hj w hw => ?_⟩
    by_cases hji : j = i
    · subst hji; exact hy a ⟨rfl, rfl⟩ L w hl hw _ fun w' hw' => ⟨M, L, hw', hl, fun _ => Less.refl _, H⟩
    · have := ready_mono hj hji
      rw [H.1] at this
      cases this
  | succ fuel ih =>
    intro listed M L a hcl hfree hr hy hl H
    refine ⟨fun h => (by rw [h] at hr; cases hr), fun j hj w hw => ?_⟩
    have hun := (mem_ready.1 hr).1
    by_cases hji : j = i
    · subst hji; exact hy a ⟨rfl, rfl⟩ L w hl hw _ fun w' hw' => ⟨M, L, hw', hl, fun _ => Less.refl _, H⟩
    · have h1 := H.2 j (ready_mono hj hji) w hw
      obtain ⟨hjun, oj, hoj, hall⟩ := mem_ready.1 hj
      have hjt : j ∉ tl := fun ht => by
        have := reach_listed hcl g j oj hoj (htl j ht) hall
        rw [getD_both hun] at this
        cases this
      have hnot : ∀ e ∈ oj.after, Region.binds .any e = true → e.on ≠ i := fun e he hb heq => by
        have h1 := hall e he hb
        rw [heq, getD_both hun] at h1
        cases h1
      have h2 := wpOp_putS hoj (hfree j oj hoj hji hjun hnot) (fun cs b => hsel i oi cs b hi) (fun cs b => hsel j oj cs b hoj) (fun c a w h => (hQ c _ w h).elim) h1
      have hfree' : ∀ k ok, ops[k]? = some ok → k ≠ i → (listed.setIfInBounds j true).getD k true = false →
          (∀ e ∈ ok.after, Region.binds .any e = true → e.on ≠ i) → oi.apart ops ok = true := fun k ok hk hki hun hno => by
        refine hfree k ok hk hki ?_ hno
        by_cases hjk : j = k
        · subst hjk; exact hjun
        · rw [getD_set_ne true hjk] at hun; exact hun
      refine wpOp_mono (fun a' w' h3 => ?_) h2
      obtain ⟨hs, M', L', hi', hl', hsub, H'⟩ := h3
      refine ⟨M', L', hi', hl', hsub, ih (listed.setIfInBounds j true) M' L' a' (hcl.set hj) hfree' (ready_mono hr (Ne.symm hji)) (hy.same hs (hsub hjt)) hl' ?_⟩
      rw [Array.setIfInBounds_comm _ _ hji]
      exact H'

theorem Less.nil (L : Hp) : Less L [] := fun _ _ h => Inv.tail (A := L) (by rw [List.append_nil]; exact h)

theorem plan_sound {ops : Array Oper} {tl : List Nat} {G : Hp → Hp} {K : Env → Hp → Prop} (hs : Region.noSelect ops = true) : ∀ (pl : List (Nat × Kd)) (td : Bool) (listed : Array Bool) (M : Hp) (T : Env) (L : Hp) (a : Act),
    okPlan ops tl td pl listed = true → Closed ops listed → VCplan Γ n ops G pl K T L → Fits n T a → (td = false → M = G L ∧ Less L (G L)) →
    AnyL Γ ops (onlyNormal fun a w => ∃ T L, Fits n T a ∧ Inv Γ L w ∧ K T L) tl pl.length listed M L a := by
  intro pl
  induction pl with
  | nil =>
    intro td listed M T L a hB hcl h hf hC
    exact ⟨by simpa [okPlan] using hB, fun w hi => ⟨T, L, hf, hi, h⟩⟩
  | cons p r ih =>
    intro td listed M T L a hB hcl h hf hC
    obtain ⟨k, d⟩ := p
    simp only [VCplan] at h
    rw [Array.getElem?_toList] at h
    cases ho : ops[k]? with
    | none => rw [ho] at h; exact h.elim
    | some o =>
      rw [ho] at h
      cases d with
      | q =>
        simp only [okPlan, Bool.and_eq_true, Bool.not_eq_true'] at hB
        obtain ⟨⟨⟨⟨⟨htd, hr⟩, hfr⟩, hnc⟩, htl⟩, hB⟩ := hB
        obtain ⟨rfl, hl⟩ := hC htd
        have hr' : k ∈ Region.ready .any ops listed := by simpa using hr
        have hnc' : isCallV o = false := by simpa [notCall, ho] using hnc
        have key : ∃ v T', YV Γ.P ops (Inv Γ (G L)) o v a ∧ Fits n T' (a.put o.dst v) ∧ VCplan Γ n ops G r K T' L := by
          rcases guardVC_sound hf h with ⟨hwa, h⟩ | ⟨hwa, h⟩
          · obtain ⟨v, hk, hrun | ⟨hc, _⟩⟩ := VQ_sound h
            · obtain ⟨T', hf', hk'⟩ := putVC_sound hf hk
              exact ⟨v, T', .inl ⟨hwa, by rw [hf.eval]; exact hrun⟩, hf', hk'⟩
            · rw [hnc'] at hc; cases hc
          · obtain ⟨T', hf', hk'⟩ := putVC_sound hf h
            exact ⟨undef, T', .inr ⟨hwa, rfl⟩, hf', hk'⟩
        obtain ⟨v, T', hy, hf', hk'⟩ := key
        exact AnyL_first ho (Region.noSelect_spec hs) (fun _ _ _ h => h) ops.size (fun t ht => List.all_eq_true.1 htl t ht) r.length listed _ L a hcl (Region.free_spec ho hfr) hr' (.of_quiet ho hy) hl
          (ih td _ _ T' L _ hB (hcl.set hr') hk' hf' fun _ => ⟨rfl, hl⟩)
      | c =>
        simp only [okPlan, Bool.and_eq_true, Bool.not_eq_true'] at hB
        obtain ⟨⟨⟨⟨htd, hr⟩, hfr⟩, htl⟩, hB⟩ := hB
        obtain ⟨rfl, hl⟩ := hC htd
        have hr' : k ∈ Region.ready .any ops listed := by simpa using hr
        have key : ∃ v T', StepV Γ ops (onlyNormal fun a w => ∃ T L, Fits n T a ∧ Inv Γ L w ∧ K T L) k o v (G L) a ∧ Fits n T' (a.put o.dst v) ∧ VCplan Γ n ops G r K T' L := by
          rcases guardVC_sound hf h with ⟨hwa, v, h, hk⟩ | ⟨hwa, h⟩
          · obtain ⟨T', hf', hk'⟩ := putVC_sound hf hk
            refine ⟨v, T', fun a' hs L0 w hl0 hi K hK => ?_, hf', hk'⟩
            unfold wpOp
            simp only [ho]
            have hy := VC_sound (h L0 hl0) w hi
            rw [← hf.eval, ← hs.1] at hy
            rw [hs.2, hwa, if_pos rfl]
            refine .inl ?_
            unfold Oper.wp
            revert hy
            generalize (execOp a'.eval o).run Γ.P w = r
            intro hy
            cases r with
            | halt x w' => exact hy.elim
            | ok nx w' =>
              cases nx <;> first | exact hy.elim | skip
              case value u =>
                obtain ⟨L', hi', rfl, rfl⟩ := hy
                exact hK _ hi'
              case skip =>
                obtain ⟨L', hi', hv, rfl⟩ := hy
                have := hK _ hi'
                rw [← hv] at this
                exact this
              case enter f args =>
                simp only [Oper.upon]
                refine Calls.mono hy ?_
                rintro e w'' ⟨u, L', rfl, hi', rfl, rfl⟩
                exact hK _ hi'
          · obtain ⟨T', hf', hk'⟩ := putVC_sound hf h
            refine ⟨undef, T', fun a' hs L0 w hl0 hi K hK => ?_, hf', hk'⟩
            unfold wpOp
            simp only [ho, hs.2, hwa, Bool.false_eq_true, if_false]
            exact hK w hi
        obtain ⟨v, T', hy, hf', hk'⟩ := key
        exact AnyL_first ho (Region.noSelect_spec hs) (fun _ _ _ h => h) ops.size (fun t ht => List.all_eq_true.1 htl t ht) r.length listed _ L a hcl (Region.free_spec ho hfr) hr' hy hl
          (ih td _ _ T' L _ hB (hcl.set hr') hk' hf' fun _ => ⟨rfl, hl⟩)
      | e =>
        simp only [okPlan, Bool.and_eq_true, Bool.not_eq_true', decide_eq_true_eq] at hB
        obtain ⟨⟨⟨htd, hnt⟩, hr⟩, hB⟩ := hB
        obtain ⟨rfl, hl⟩ := hC htd
        have hr' : k ∈ Region.ready .any ops listed := by rw [hr]; simp
        refine ⟨fun h0 => (by rw [h0] at hr; cases hr), fun i hi' w hi => ?_⟩
        rw [hr] at hi'
        have hik : i = k := by simpa using hi'
        subst hik
        refine wpOp_mono ?_ (eff_wpOp ho hf hi (R := fun T L' => (Less L' (G L') ∧ Less (G L') (G L)) ∧ VCplan Γ n ops G r K T L') (N := fun T L => VCplan Γ n ops G r K T L) h)
        rintro a' w' ⟨T', L', hf', hi'', ⟨⟨h1, h2⟩, h3⟩ | ⟨rfl, h3⟩⟩
        · exact ⟨G L', L', hi'', h1, fun _ => h2, ih td _ _ T' L' a' hB (hcl.set hr') h3 hf' fun _ => ⟨rfl, h1⟩⟩
        · exact ⟨G L', L', hi'', hl, fun _ => Less.refl _, ih td _ _ T' L' a' hB (hcl.set hr') h3 hf' fun _ => ⟨rfl, hl⟩⟩
      | t =>
        simp only [okPlan, Bool.and_eq_true, decide_eq_true_eq] at hB
        obtain ⟨⟨hr, hnt⟩, hB⟩ := hB
        have hr' : k ∈ Region.ready .any ops listed := by rw [hr]; simp
        refine ⟨fun h0 => (by rw [h0] at hr; cases hr), fun i hi' w hi => ?_⟩
        rw [hr] at hi'
        have hik : i = k := by simpa using hi'
        subst hik
        have hmem : i ∈ tl := by simpa using hnt
        refine wpOp_mono ?_ (eff_wpOp ho hf hi (R := fun T L' => VCplan Γ n ops G r K T L') (N := fun T L => VCplan Γ n ops G r K T L) h)
        rintro a' w' ⟨T', L', hf', hi'', h3 | ⟨rfl, h3⟩⟩
        · exact ⟨[], L', hi'', Less.nil _, fun hn => absurd hmem hn, ih true _ _ T' L' a' hB (hcl.set hr') h3 hf' fun h => by cases h⟩
        · exact ⟨[], L', hi'', Less.nil _, fun hn => absurd hmem hn, ih true _ _ T' L' a' hB (hcl.set hr') h3 hf' fun h => by cases h⟩

/-- A region that draws its order, walked in a planned one. -/
theorem SX.drawn {id : Nat} {l : List Oper} (pl : List (Nat × Kd)) (G : Hp → Hp) (hm : Γ.P.follows .mixedOrders = true) (hB : planB l.toArray pl = true) (hG : Less L (G L))
    (h : VCplan Γ n l.toArray G pl (Q .normal) T L) : SX Γ n (.region id l.toArray true) Q T L := fun a w hf hi => by
  simp only [planB, Bool.and_eq_true, decide_eq_true_eq] at hB
  obtain ⟨⟨hs, hlen⟩, hB⟩ := hB
  have H := plan_sound hs pl false _ (G L) T L a hB (Closed.zero _) h hf fun _ => ⟨rfl, hG⟩
  have H2 := wp_region_any (id := id) hm (hlen ▸ H.any _ _ _ _ _ _ hi.drewR)
  refine Code.wp_mono (fun e a w he => ?_) H2
  cases e <;> first | exact he | exact (he : False).elim
end
end Go.SX
