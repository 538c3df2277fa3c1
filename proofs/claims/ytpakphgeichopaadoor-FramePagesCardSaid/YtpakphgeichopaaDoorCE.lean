/- FramePages: the page of any frame is as the document says, and of one of which each row is shown four times; a byte that is turned is seen; no condition. -/
import Derived.Test.YtpakphgeichopaaDoorCD
import Derived.Laws.BitsLemmas
import Derived.Laws.BitsAllLaws
import Derived.Test.YtpakphgeichopaaDoorRows
import Derived.Test.YtpakphgeichopaaDoorCards
import Derived.Test.YtpakphgeichopaaDoorTie
import Derived.SevenTiedAt
set_option linter.unusedVariables false
set_option linter.unusedSimpArgs false
namespace Go.Proofs.YtpakphgeichopaaDoor
open Go.RowKit Go.SX
/-! A trace cut in two; frames follow each other; no row has more than eight bytes. -/
/-! following each other -/
theorem atZ_P {x : Ras} (h : okR x = true) : atZ x = decide (P x = 0) := by
  obtain ⟨l, c, o, g⟩ := x
  have hk := of_okB h
  dsimp only at hk
  unfold atZ P
  dsimp only
  rw [Bool.eq_iff_iff]
  simp only [Bool.and_eq_true, decide_eq_true_eq]
  omega
theorem rasN_P {x : Ras} {r : Rc} (h : okR x = true) (hm : mayB r = true) : P (rasN x r) = (P x + 1) % 3668 := by
  obtain ⟨l, c, o, g⟩ := x
  have hk := of_okB h
  unfold mayB at hm
  simp only [Bool.and_eq_true, decide_eq_true_eq] at hm
  have hm3 := hm.1.2
  unfold rasN step
  rw [if_pos ⟨h, hm3⟩]
  dsimp only at hk ⊢
  unfold P
  split
  · dsimp only
    split <;> omega
  · dsimp only
    omega
structure Follow (k : Nat) (s : St) : Prop where
  ok : okR s.ras = true
  con : ∀ i f g, s.out[i]? = some f → s.out[i + 1]? = some g → g.at_ = f.at_ + 3668
  opn : ∀ a rows, s.now = some (a, rows) → (k : Int) - a = P s.ras ∧ 0 < P s.ras
  lst : ∀ f, s.out.getLast? = some f → (∀ a rows, s.now = some (a, rows) → a = f.at_ + 3668) ∧ (s.now = none → (k : Int) = f.at_ + 3668 ∧ P s.ras = 0)
theorem con_app {l : List Fm} {g : Fm} (h : ∀ i f g, l[i]? = some f → l[i + 1]? = some g → g.at_ = f.at_ + 3668) (hl : ∀ f, l.getLast? = some f → g.at_ = f.at_ + 3668) : ∀ i f g', (l ++ [g])[i]? = some f → (l ++ [g])[i + 1]? = some g' → g'.at_ = f.at_ + 3668 := by
  intro i f g' h1 h2
  by_cases hi : i + 1 < l.length
  · rw [List.getElem?_append_left (by omega)] at h1
    rw [List.getElem?_append_left hi] at h2
    exact h i f g' h1 h2
  · have hlt := (List.getElem?_eq_some_iff.1 h2).1
    rw [List.length_append] at hlt
    simp only [List.length_cons, List.length_nil] at hlt
    have he : i + 1 = l.length := by omega
    rw [List.getElem?_append_left (by omega)] at h1
    rw [he, List.getElem?_append_right (Nat.le_refl _), Nat.sub_self] at h2
    cases h2
    refine hl f ?_
    rw [List.getLast?_eq_getElem?, show l.length - 1 = i by omega]
    exact h1
theorem Follow.step {k : Nat} {s : St} {r : Rc} (h : Follow k s) (hm : mayB r = true) : Follow (k + 1) (stF s k r) := by
  have hok' := rasN_ok h.ok hm
  have hP := rasN_P h.ok hm
  have hlt := P_lt h.ok
  have hz := atZ_P h.ok
  have hz' := atZ_P hok'
  have hcon := h.con
  have hopn := h.opn
  have hlst := h.lst
  obtain ⟨x, w, o⟩ := s
  dsimp only at hok' hP hlt hz hz' hcon hopn hlst
  have key : ∀ a rows, begunN x w k = some (a, rows) → (k : Int) - a = P x ∧ ∀ f, o.getLast? = some f → a = f.at_ + 3668 := by
    intro a rows hb
    unfold begunN at hb
    split at hb
    · rename_i hzt
      rw [hz, decide_eq_true_eq] at hzt
      cases hb
      refine ⟨by rw [hzt]; omega, fun f hf => ?_⟩
      obtain ⟨l1, l2⟩ := hlst f hf
      cases hw : w with
      | none => exact (l2 hw).1
      | some p =>
        obtain ⟨a', rows'⟩ := p
        have := (hopn a' rows' hw).2
        omega
    · exact ⟨(hopn a rows hb).1, fun f hf => (hlst f hf).1 a rows hb⟩
  cases hbs : begunN x w k with
  | none =>
    have hw : w = none ∧ P x ≠ 0 := by
      unfold begunN at hbs
      split at hbs
      · cases hbs
      · rename_i hzf
        rw [hz, decide_eq_true_eq] at hzf
        exact ⟨hbs, hzf⟩
    have ho : o = [] := by
      cases ho : o.getLast? with
      | none => exact List.getLast?_eq_none_iff.1 ho
      | some f => exact absurd ((hlst f ho).2 hw.1).2 hw.2
    rw [stF_none hbs, ho]
    exact ⟨hok', fun i f g h1 => (by simp at h1), fun a rows h1 => (by cases h1), fun f h1 => (by simp at h1)⟩
  | some p =>
    obtain ⟨a, rows⟩ := p
    obtain ⟨k1, k2⟩ := key a rows hbs
    cases hzn : atZ (rasN x r) with
    | true =>
      rw [hzn] at hz'
      have hp0 : P (rasN x r) = 0 := by have := hz'.symm; rwa [decide_eq_true_eq] at this
      rw [stF_fin hbs hzn]
      refine ⟨hok', con_app hcon k2, fun a' rows' h1 => (by cases h1), fun f hf => ?_⟩
      dsimp only at hf ⊢
      rw [List.getLast?_concat] at hf
      simp only [Option.some.injEq] at hf
      subst hf
      refine ⟨fun a' rows' h1 => (by cases h1), fun _ => ⟨?_, hp0⟩⟩
      dsimp only
      omega
    | false =>
      rw [hzn] at hz'
      have hp0 : P (rasN x r) ≠ 0 := by have := hz'.symm; rwa [decide_eq_false_iff_not] at this
      rw [stF_go hbs hzn]
      refine ⟨hok', hcon, fun a' rows' h1 => ?_, fun f hf => ⟨fun a' rows' h1 => ?_, fun h1 => (by cases h1)⟩⟩
      · cases h1
        dsimp only
        omega
      · cases h1
        exact k2 f hf
/-! no row has more than eight bytes -/
def Eight (x : Ras) (rows : List (List Int)) : Prop := rows.length = 128 ∧ ∀ j, j < 128 → (rows.getD j []).length ≤ 8 ∧ (x.1 < 80 + j → rows.getD j [] = []) ∧ (x.1 = 80 + j → ((rows.getD j []).length : Int) ≤ x.2.2.2)
theorem Eight.start {x : Ras} (h : okR x = true) : Eight x (List.replicate 128 []) := by
  obtain ⟨l, c, o, g⟩ := x
  have hk := of_okB h
  refine ⟨List.length_replicate .., fun j hj => ?_⟩
  rw [rep_getD hj]
  dsimp only at hk ⊢
  exact ⟨by simp, fun _ => rfl, fun _ => by simp; omega⟩
theorem Eight.next {x : Ras} {r : Rc} {rows : List (List Int)} (h : Eight x rows) (hok : okR x = true) (hm : mayB r = true) : (∀ j, j < 128 → ((tookN x r rows).getD j []).length ≤ 8) ∧ (atZ (rasN x r) = false → Eight (rasN x r) (tookN x r rows)) := by
  have hok' := rasN_ok hok hm
  have hz' := atZ_P hok'
  have hP := rasN_P hok hm
  obtain ⟨hn, h⟩ := h
  obtain ⟨l, c, o, g⟩ := x
  have hk := of_okB hok
  unfold mayB at hm
  simp only [Bool.and_eq_true, decide_eq_true_eq] at hm
  have hm3 := hm.1.2
  have hras : rasN (l, c, o, g) r = if c + 1 = 14 then (if l + 1 = 262 then 0 else l + 1, 0, onB o r.port r.rd r.wr r.md, 0) else (l, c + 1, onB o r.port r.rd r.wr r.md, if tB l c o g r.code r.rd = true then g + 1 else g) := by
    unfold rasN step
    rw [if_pos ⟨hok, hm3⟩]
  dsimp only at hk h
  by_cases ht : takesN (l, c, o, g) r = true
  · have hlt := takesN_line ht
    have htb : tB l c o g r.code r.rd = true := ht
    have hg8 : g < 8 := by
      unfold tB wB at htb
      simp only [Bool.and_eq_true, decide_eq_true_eq] at htb
      exact htb.1.1.2
    have hln : lineN (l, c, o, g) = (l - 80).toNat := rfl
    have htook : tookN (l, c, o, g) r rows = rows.set (lineN (l, c, o, g)) (rows.getD (lineN (l, c, o, g)) [] ++ [r.data]) := if_pos ht
    dsimp only at hlt
    have hget : ∀ j, (tookN (l, c, o, g) r rows).getD j [] = if lineN (l, c, o, g) = j ∧ lineN (l, c, o, g) < rows.length then rows.getD (lineN (l, c, o, g)) [] ++ [r.data] else rows.getD j [] := fun j => by rw [htook, set_getD]
    refine ⟨fun j hj => ?_, fun hzf => ⟨by rw [tookN_len]; exact hn, fun j hj => ?_⟩⟩
    · rw [hget]
      split
      · rename_i he
        have := (h j hj).2.2 (by omega)
        rw [← he.1] at this
        rw [List.length_append]
        simp only [List.length_cons, List.length_nil]
        omega
      · exact (h j hj).1
    · rw [hget, hras]
      rw [hz', hras] at hzf
      rw [if_pos htb] at hzf ⊢
      obtain ⟨h1, h2, h3⟩ := h j hj
      by_cases he : lineN (l, c, o, g) = j
      · rw [if_pos ⟨he, by omega⟩, he]
        have h3' := h3 (by omega)
        rw [List.length_append]
        simp only [List.length_cons, List.length_nil]
        by_cases hc : c + 1 = 14
        · rw [if_pos hc]
          dsimp only
          refine ⟨by omega, fun hh => ?_, fun hh => ?_⟩
          · exfalso; split at hh <;> omega
          · exfalso; split at hh <;> omega
        · rw [if_neg hc]
          dsimp only
          exact ⟨by omega, fun hh => by exfalso; omega, fun hh => by omega⟩
      · rw [if_neg (fun hh => he hh.1)]
        by_cases hc : c + 1 = 14
        · rw [if_pos hc] at hzf ⊢
          dsimp only
          unfold P at hzf
          dsimp only at hzf
          rw [decide_eq_false_iff_not] at hzf
          by_cases hw : l + 1 = 262
          · rw [if_pos hw] at hzf; exfalso; exact hzf rfl
          · rw [if_neg hw]
            exact ⟨h1, fun hh => h2 (by omega), fun hh => by rw [h2 (by omega)]; simp⟩
        · rw [if_neg hc]
          dsimp only
          exact ⟨h1, fun hh => h2 hh, fun hh => by exfalso; omega⟩
  · have htb : tB l c o g r.code r.rd = false := by
      cases hb : tB l c o g r.code r.rd with
      | false => rfl
      | true => exact absurd hb ht
    have htook : tookN (l, c, o, g) r rows = rows := if_neg ht
    rw [htook]
    refine ⟨fun j hj => (h j hj).1, fun hzf => ⟨hn, fun j hj => ?_⟩⟩
    rw [hras]
    rw [hz', hras] at hzf
    rw [htb] at hzf ⊢
    simp only [Bool.false_eq_true, if_false] at hzf ⊢
    obtain ⟨h1, h2, h3⟩ := h j hj
    by_cases hc : c + 1 = 14
    · rw [if_pos hc] at hzf ⊢
      dsimp only
      unfold P at hzf
      dsimp only at hzf
      rw [decide_eq_false_iff_not] at hzf
      by_cases hw : l + 1 = 262
      · rw [if_pos hw] at hzf; exfalso; exact hzf rfl
      · rw [if_neg hw]
        exact ⟨h1, fun hh => h2 (by omega), fun hh => by rw [h2 (by omega)]; simp⟩
    · rw [if_neg hc]
      dsimp only
      exact ⟨h1, h2, h3⟩
/-! counting -/
end Go.Proofs.YtpakphgeichopaaDoor
set_option linter.unusedVariables false
set_option linter.unusedSimpArgs false
namespace Go.Proofs.YtpakphgeichopaaDoor
open Go.RowKit Go.SX Go.Proofs

theorem Sl.drop {α : Type} {sz : Nat} {R : (Addr → Value → Prop) → Addr → α → Prop} {C : Addr → Value → Prop} {A : Option Addr} {n c k : Nat} {xs : List α} (h : Sl sz R C (.slice A n c) xs) (hk : k ≤ n) : Sl sz R C (.slice (cutA A sz c k) (n - k) (c - k)) (xs.drop k) := by
  obtain ⟨A', c', he, hc, hA⟩ := h
  injection he with e1 e2 e3
  subst e1 e2 e3
  refine ⟨_, c - k, by rw [List.length_drop], by rw [List.length_drop]; omega, fun j x hj => ?_⟩
  rw [List.getElem?_drop] at hj
  obtain ⟨a, ha, hR⟩ := hA (k + j) x hj
  have hlt := (List.getElem?_eq_some_iff.1 hj).1
  refine ⟨a.add (k * sz), ?_, ?_⟩
  · unfold cutA
    rw [if_neg (by omega), ha]
    rfl
  · rw [add_addS, ← Nat.add_mul]
    exact hR
end Go.Proofs.YtpakphgeichopaaDoor
set_option linter.unusedVariables false
set_option linter.unusedSimpArgs false
/-! A slice as an array's pointer. -/
namespace Go.SX
open Go.RowKit
theorem run_sap {P : Program} {arr n e : Nat} {A : Option Addr} {len c : Nat} {w : World} (hu : P.underlying arr = some (.array n e)) (hl : n ≤ len) : (Instr.arrayAt arr (.slice A len c)).run P w = .ok (.pointer A) w := by
  unfold Instr.arrayAt
  simp [run_underlying hu, show ¬ len < n by omega]
theorem VQ_sap {Γ : Ctx} {dst : Option Tmp} {arr : TypeId} {x : Operand} {ty : TypeId} {ps : String} {af : Array Edge} {g : Option (Nat × Bool)} {T : Env} {L : Hp} {K : Value → Prop} {n e : Nat} {A : Option Addr} {len c : Nat}
    (hu : Γ.P.underlying arr = some (.array n e)) (hx : ev T x = .slice A len c) (hl : n ≤ len) (hk : K (.pointer A)) : VQH Γ ⟨dst, .sliceToArrayPointer arr x, ty, ps, af, g⟩ T L K () () () () := by
  show YieldsQ Γ _ T L K
  refine YieldsQ.mk (.pointer A) hk fun w hi => ?_
  simp only [execOp, hx]
  simp [run_sap hu hl]
theorem VC_sap {Γ : Ctx} {dst : Option Tmp} {arr : TypeId} {x : Operand} {ty : TypeId} {ps : String} {af : Array Edge} {g : Option (Nat × Bool)} {T : Env} {L : Hp} {K : Value → Hp → Prop} {n e : Nat} {A : Option Addr} {len c : Nat}
    (hu : Γ.P.underlying arr = some (.array n e)) (hx : ev T x = .slice A len c) (hl : n ≤ len) (hk : K (.pointer A) L) : VCH Γ ⟨dst, .sliceToArrayPointer arr x, ty, ps, af, g⟩ T L K () () () () :=
  VQ_sap (K := fun v => K v L) hu hx hl hk
end Go.SX
set_option linter.unusedVariables false
set_option linter.unusedSimpArgs false
namespace Go.Proofs.YtpakphgeichopaaDoor
open Go.RowKit Go.SX
/-! The page of which each row was shown four times. -/
theorem cnt_le8 : ∀ {l : List (List Int)}, (∀ r ∈ l, r.length ≤ 8) → cnt l ≤ 8 * l.length
  | [], _ => Nat.zero_le _
  | r :: l, h => by
    have h1 := h r (List.mem_cons_self ..)
    have h2 := cnt_le8 (l := l) fun r hr => h r (List.mem_cons_of_mem _ hr)
    rw [cnt, List.length_cons]
    omega
theorem full8 {f : Fm} (hm : mayF f = true) (hs : f.sh = false) : ∀ i, i < 128 → (f.rows.getD i []).length = 8 := by
  obtain ⟨_, hn, hsh, h8⟩ := of_mayF hm
  rw [hs] at hsh
  have hc : 1024 ≤ cnt f.rows := by have := hsh.symm; rw [decide_eq_false_iff_not] at this; omega
  have hmem : ∀ r ∈ f.rows, r.length ≤ 8 := fun r hr => by
    obtain ⟨j, hj⟩ := List.mem_iff_getElem?.1 hr
    have hjl := (List.getElem?_eq_some_iff.1 hj).1
    have := h8 j hjl
    rwa [List.getD_eq_getElem?_getD, hj] at this
  intro i hi
  have e : f.rows = f.rows.take i ++ (f.rows.getD i [] :: f.rows.drop (i + 1)) := by
    have hg := getD_get (d := []) (show i < f.rows.length by omega)
    obtain ⟨hil, he⟩ := List.getElem?_eq_some_iff.1 hg
    rw [← he, ← List.drop_eq_getElem_cons hil, List.take_append_drop]
  have h1 := cnt_le8 (l := f.rows.take i) fun r hr => hmem r (List.mem_of_mem_take hr)
  have h2 := cnt_le8 (l := f.rows.drop (i + 1)) fun r hr => hmem r (List.mem_of_mem_drop hr)
  have h3 : cnt f.rows = cnt (f.rows.take i) + ((f.rows.getD i []).length + cnt (f.rows.drop (i + 1))) := by
    conv => lhs; rw [e]
    rw [cnt_app, cnt]
  rw [List.length_take] at h1
  rw [List.length_drop] at h2
  have h4 := h8 i (by omega)
  omega
def pageTo (rows : List (List Int)) : Nat → List Int
  | 0 => []
  | k + 1 => pageTo rows k ++ rows.getD (4 * k) []
def same4 (rows : List (List Int)) : Bool := (List.range 128).all fun i => decide (rows.getD i [] = rows.getD (i / 4 * 4) [])
theorem same4_iff {rows : List (List Int)} : same4 rows = true ↔ ∀ i, i < 128 → rows.getD i [] = rows.getD (i / 4 * 4) [] := by
  unfold same4
  rw [List.all_eq_true]
  exact ⟨fun h i hi => by simpa using h i (List.mem_range.2 hi), fun h i hi => by simpa using h i (List.mem_range.1 hi)⟩
def pageP (f : Fm) : Option (List Int) := if (mayF f && !f.sh && same4 f.rows) = true then some (pageTo f.rows 32) else none
theorem pageP_no {f : Fm} (h : (!mayF f || f.sh) = true) : pageP f = none := by
  unfold pageP
  refine if_neg fun hh => ?_
  simp only [Bool.and_eq_true, Bool.not_eq_true'] at hh
  rw [hh.1.1, hh.1.2] at h
  cases h
theorem pageP_off {f : Fm} {i : Nat} (hi : i < 128) (h : ¬ f.rows.getD i [] = f.rows.getD (i / 4 * 4) []) : pageP f = none := by
  unfold pageP
  refine if_neg fun hh => ?_
  rw [Bool.and_eq_true] at hh
  exact h (same4_iff.1 hh.2 i hi)
theorem pageP_yes {f : Fm} (h : (!mayF f || f.sh) = false) (hs : ∀ i, i < 128 → f.rows.getD i [] = f.rows.getD (i / 4 * 4) []) : pageP f = some (pageTo f.rows 32) := by
  rw [Bool.or_eq_false_iff, Bool.not_eq_false'] at h
  unfold pageP
  rw [h.1, h.2, same4_iff.2 hs]
  rfl
theorem pageTo_len {rows : List (List Int)} (h : ∀ i, i < 128 → (rows.getD i []).length = 8) : ∀ k, k ≤ 32 → (pageTo rows k).length = 8 * k
  | 0, _ => rfl
  | k + 1, hk => by
    rw [pageTo, List.length_append, pageTo_len h k (by omega), h _ (by omega)]
    omega
theorem pageTo_byte {rows : List (List Int)} (h : ∀ i, i < 128 → Byte (rows.getD i [])) : ∀ k, k ≤ 32 → Byte (pageTo rows k)
  | 0, _ => fun x hx => by cases hx
  | k + 1, hk => Byte.app (pageTo_byte h k (by omega)) (h _ (by omega))
theorem eight {l : List Int} (h : l.length = 8) : l = [l.getD 0 0, l.getD 1 0, l.getD 2 0, l.getD 3 0, l.getD 4 0, l.getD 5 0, l.getD 6 0, l.getD 7 0] := by
  match l, h with
  | [a, b, c, d, e, f, g, i], _ => rfl
theorem ints8 {l : List Int} (h : l.length = 8) : ints .u8 l = [.int .u8 (l.getD 0 0), .int .u8 (l.getD 1 0), .int .u8 (l.getD 2 0), .int .u8 (l.getD 3 0), .int .u8 (l.getD 4 0), .int .u8 (l.getD 5 0), .int .u8 (l.getD 6 0), .int .u8 (l.getD 7 0)] := by
  conv => lhs; rw [eight h]
  rfl
theorem eqT_79 : EqT Tryd.prog 79 (List.replicate 8 (.i .u8)) := ⟨by kernel_rfl, by kernel_rfl, by kernel_rfl, by kernel_rfl, by kernel_rfl⟩
theorem ok8 {l : List Int} (h : l.length = 8) (hb : Byte l) : okVs (List.replicate 8 (.i .u8)) (ints .u8 l) = true := by
  have key : ∀ m : List Int, Byte m → okVs (List.replicate m.length (.i .u8)) (ints .u8 m) = true := by
    intro m
    induction m with
    | nil => intro _; rfl
    | cons x m ih =>
      intro hm
      have hx := hm x (List.mem_cons_self ..)
      have := ih fun y hy => hm y (List.mem_cons_of_mem _ hy)
      show (okV (.i .u8) (.int .u8 x) && okVs (List.replicate m.length (.i .u8)) (ints .u8 m)) = true
      rw [this, Bool.and_true]
      simp only [okV, wf_u8, decide_true, Bool.true_and, Bool.and_eq_true, decide_eq_true_eq]
      omega
  have := key l hb
  rwa [h] at this
theorem eq8 {l m : List Int} {r : Bool} (hr : r = true ↔ (ints .u8 l).map litV = (ints .u8 m).map litV) : r = decide (l = m) := by
  rw [Bool.eq_iff_iff, hr, decide_eq_true_eq]
  have e : ∀ l : List Int, (ints .u8 l).map litV = l.map fun x => Lit.int .u8 x := fun l => by
    unfold ints
    rw [List.map_map]
    rfl
  rw [e, e]
  exact lits_inj
end Go.Proofs.YtpakphgeichopaaDoor
set_option linter.unusedVariables false
set_option linter.unusedSimpArgs false
namespace Go.Proofs.YtpakphgeichopaaDoor
open Go.RowKit Go.SX Go.Proofs
open Go.SX renaming ia_someH → Φa

def PageR (f : Fm) (L : Hp) (v : Value) (L' : Hp) : Prop := ∃ vo so, v = .tuple #[vo, .bool (pageP f).isSome] ∧ L' = so :: L ∧ RowI .u8 5 vo ((pageP f).getD []) so
theorem PageR.none {f : Fm} {L : Hp} (h : pageP f = none) : PageR f L (.tuple #[.slice none 0 0, .bool false]) (none :: L) := ⟨_, _, by rw [h]; rfl, rfl, by rw [h]; exact RowI.nil _ _⟩
theorem PageR.some {f : Fm} {L : Hp} {v : Value} {s : Slot} {l : List Int} (h : pageP f = some l) (hr : RowI .u8 5 v l s) : PageR f L (.tuple #[v, .bool true]) (s :: L) := ⟨_, _, by rw [h]; rfl, rfl, by rw [h]; exact hr⟩
theorem row_byte {rows : List (List Int)} (h : ∀ i, i < rows.length → ∀ j, j < (rows.getD i []).length → 0 ≤ (rows.getD i []).getD j 0 ∧ (rows.getD i []).getD j 0 ≤ 255) {i : Nat} (hi : i < rows.length) : Byte (rows.getD i []) := fun x hx => by
  obtain ⟨j, hj⟩ := List.mem_iff_getElem?.1 hx
  have hjl := (List.getElem?_eq_some_iff.1 hj).1
  have := h i hi j hjl
  rwa [List.getD_eq_getElem?_getD, hj] at this
set_option maxHeartbeats 1000000 in
set_option maxRecDepth 100000 in
theorem Page_spec {Γ : Ctx} (hP : Γ.P = Tryd.prog) {L : Hp} {v : Value} {f : Fm} (hr : SlR (Cell Γ L) v f.rows) (hm : cnt f.rows ≤ 9000000000000000000) (hrl : f.rows.length ≤ 9000000000000000000) (hby : ∀ i, i < f.rows.length → ∀ j, j < (f.rows.getD i []).length → 0 ≤ (f.rows.getD i []).getD j 0 ∧ (f.rows.getD i []).getD j 0 ≤ 255) :
    SCall Γ 22 #[(.agg (f.cells v).toArray)] L (PageR f L) := by
  obtain ⟨A, c, rfl, hc⟩ := Sl.shape hr
  obtain ⟨a1, e1, _, hA⟩ := slR_at hr
  refine SCall.enter (n := 45) (res2 2 3) (hP ▸ Tryd.func22) rfl rfl (by simp) (res2_ok rfl) ?_
  refine SX.seq_k fun K1 hK1 => ?_
  refine SX.region_d [some 1, some 2, some 3] rfl (fun ops hops => ?_)
  unfold Dsts at hops
  simp (maxSteps:=1000000)(dsimp:=false)(disch:=omega) only [go_sem, Φa, hP, hops]
  intro b0
  try with_reducible refine stI ?_
  try simp (maxSteps:=1000000)(dsimp:=false)(disch:=omega) only [go_sem, Φa, hP, hops]
  refine hK1 _ _ ?_
  try clear hK1 K1
  refine SX.seq_k fun K2 hK2 => ?_
  refine SX.seq_k fun K3 hK3 => ?_
  refine SX.region_xd [some 8, some 9, some 10, some 11, some 12, some 13, some 14] rfl (fun ops hops => ?_)
  unfold Dsts at hops
  refine RX.live [1] (fun T1 hT1 => ?_)
  simp only [forall_mem_cons', forall_mem_nil', go_sem, Φa, hP] at hT1
  have h1_1 := hT1; clear hT1
  refine RX.join 7 (fun (ss : Unit) T L' => T 14 = .bool (!mayF f || f.sh) ∧ T 1 = T1 1 ∧ L' = some (b0, .cells (f.cells (.slice A f.rows.length c)).toArray 41 (0, 0)) :: L ∧ (True)) (fun K4 hK4 => ?_) ?_
  · simp only [h1_1] at hK4
    simp (maxSteps:=1000000)(dsimp:=false)(disch:=omega) only [go_sem, Φa, hP, h1_1, hops]
    repeat' (first | refine iteB (fun hg => ?_) (fun hg => ?_) | refine iteI (fun hg => ?_) (fun hg => ?_) | ((first | refine ⟨_, Cell.at 0 rfl (show (Fm.cells _ _)[0]? = _ from rfl), _, Cell.at 0 rfl (show (Fm.cells _ _)[1]? = _ from rfl), _, Cell.at 0 rfl (show (Fm.cells _ _)[2]? = _ from rfl), ?_⟩ | refine ⟨_, Cell.at 0 rfl (show (Fm.cells _ _)[2]? = _ from rfl), ?_⟩ | (refine SCall.mono (check_spec (f := f) hP (SlR.mono (fun a v h => Cell.cons _ h) hr) hm hrl) ?_; rintro v_ L_ ⟨hv_, hL_⟩; rw [hv_, hL_]; clear hv_ hL_ v_ L_) | refine And.intro (by omega) ?_ | refine ⟨_, Cell.at 0 rfl rfl, _, Cell.at 0 rfl rfl, _, Cell.at 0 rfl rfl, ?_⟩ | refine ⟨_, Cell.at 0 rfl rfl, ?_⟩ | fail); try (with_reducible refine stI ?_); try simp (maxSteps:=1000000)(dsimp:=false)(disch:=omega) only [go_sem, Φa, hP, h1_1, hops]) | fail)
    all_goals
      refine hK4 () _ (some (b0, .cells (f.cells (.slice A f.rows.length c)).toArray 41 (0, 0)) :: L) _ (by first | exact Less.refl _ | exact Less.drop _ _ | exact Less.drops (Less.drop _ _) | exact Less.drops (Less.drops (Less.drop _ _)) | exact Less.drops (Less.drops (Less.drops (Less.drop _ _))) | exact Less.drops (Less.drops (Less.drops (Less.drops (Less.drop _ _))))) ?_
      try dsimp only
      refine ⟨?_, ?_, ?_, ?_⟩
      · simp (maxSteps:=1000000)(dsimp:=false)(disch:=omega) only [go_sem, Φa, hP, h1_1]
        first | done | rfl | (refine congrArg Value.bool ?_; simp_all; done)
      · simp (maxSteps:=1000000)(dsimp:=false)(disch:=omega) only [go_sem, Φa, hP, h1_1]
      · rfl
      · trivial
  · intro ss T2 L2 hI
    simp only [h1_1] at hI 
    obtain ⟨h2_14, h2_1, hL2, hinv⟩ := hI
    replace hL2 := hL2.symm
    subst hL2
    clear h1_1 T1
    refine RX.done ?_
    simp (maxSteps:=1000000)(dsimp:=false)(disch:=omega) only [go_sem, Φa, hP, h2_14, h2_1, hops]
    refine hK3 _ _ ?_
    try clear hK3 K3
    refine SX.cond_k fun X5 Y5 hX5 hY5 => ?_
    simp (maxSteps:=1000000)(dsimp:=false)(disch:=omega) only [go_sem, Φa, hP, h2_14, h2_1, condVC]
    refine ⟨fun hc14 => hX5 ?_, fun hc14 => hY5 ?_⟩
    · clear hX5 hY5 X5 Y5
      refine SX.seq_k fun K6 hK6 => ?_
      refine SX.region_d [some 2, some 3] rfl (fun ops hops => ?_)
      unfold Dsts at hops
      simp (maxSteps:=1000000)(dsimp:=false)(disch:=omega) only [go_sem, Φa, hP, h2_14, h2_1, hops]
      refine hK6 _ _ ?_
      try clear hK6 K6
      refine SX.ret ?_
      simp only [andThen_normal, andThen_ret, andThen_exit, inBlk_normal, inBlk_ret, inBlk_exit, Nat.reduceEqDiff, if_true, if_false, ↓reduceIte, retQ_ret]
      try simp only [res0, res1, res2, res3, stK_e, go_sem, Φa, hP, h2_14, h2_1]
      exact ⟨_, _, (Less.drop _ _).trans (Less.none _), rfl, PageR.none (pageP_no hc14)⟩
    · clear hX5 hY5 X5 Y5
      refine SX.skip ?_
      try simp only [andThen_normal, andThen_ret, andThen_exit, inBlk_normal, inBlk_ret, inBlk_exit, Nat.reduceEqDiff, if_true, if_false, ↓reduceIte]
      refine hK2 _ _ ?_
      try clear hK2 K2
      refine SX.seq_k fun K7 hK7 => ?_
      have hmf := hc14
      rw [Bool.or_eq_false_iff, Bool.not_eq_false'] at hmf
      have hful := full8 hmf.1 hmf.2
      have h128 := (of_mayF hmf.1).2.1
      refine SX.region_d [some 4] rfl (fun ops hops => ?_)
      unfold Dsts at hops
      simp (maxSteps:=1000000)(dsimp:=false)(disch:=omega) only [go_sem, Φa, hP, h2_14, h2_1, hops]
      refine hK7 _ _ ?_
      try clear hK7 K7
      refine SX.seq_k fun K8 hK8 => ?_
      refine SX.seq_k fun K9 hK9 => ?_
      refine SX.less (Less.none _) ?_
      refine SX.region_d [some 5] rfl (fun ops hops => ?_)
      unfold Dsts at hops
      simp (maxSteps:=1000000)(dsimp:=false)(disch:=omega) only [go_sem, Φa, hP, h2_14, h2_1, hops]
      refine hK9 _ _ ?_
      try clear hK9 K9
      refine SX.block ?_
      refine SX.live [1, 4, 5] (fun T3 hT3 => ?_)
      simp only [forall_mem_cons', forall_mem_nil', go_sem, Φa, hP, h2_14, h2_1] at hT3
      obtain ⟨h3_1, h3_4, h3_5⟩ := hT3
      clear h2_14 h2_1 T2
      refine SX.loop_k (fun (ss : (Nat) × (Value) × (Slot)) T L' => (fun (m : Nat) (vo : Value) (so : Slot) => T 4 = vo ∧ T 5 = .int .i64 ((4 * m : Nat) : Int) ∧ T 1 = T3 1 ∧ L' = so :: some (b0, .cells (f.cells (.slice A f.rows.length c)).toArray 41 (0, 0)) :: L ∧ (m ≤ 32 ∧ (∀ i, i < 4 * m → f.rows.getD i [] = f.rows.getD (i / 4 * 4) []) ∧ RowI .u8 5 vo (pageTo f.rows m) so)) (ss.1) (ss.2.1) (ss.2.2)) (fun (ss : (Nat) × (Value) × (Slot)) => (fun (m : Nat) (vo : Value) (so : Slot) => 32 - m) (ss.1) (ss.2.1) (ss.2.2)) (0, .slice none 0 0, none) ?_ ?_
      · try dsimp only
        refine ⟨?_, ?_, ?_, ?_, ?_⟩
        · first | exact h3_4 | (rw [h3_4]; rfl) | (rw [h3_4]; simp; done)
        · first | exact h3_5 | (rw [h3_5]; rfl) | (rw [h3_5]; simp; done)
        · rfl
        · rfl
        · exact ⟨Nat.zero_le _, fun i hi => absurd hi (Nat.not_lt_zero _), RowI.nil _ _⟩
      · intro ss T4 L4 hI K10 hK10
        obtain ⟨m, vo, so⟩ := ss
        try dsimp only at hI hK10
        simp only [h3_1] at hI hK10
        obtain ⟨h4_4, h4_5, h4_1, hL4, ⟨hmm, hin, hrow⟩⟩ := hI
        replace hL4 := hL4.symm
        subst hL4
        clear h3_1 h3_4 h3_5 T3
        refine SX.seq_k fun K11 hK11 => ?_
        refine SX.seq_k fun K12 hK12 => ?_
        refine SX.region_d [some 15, some 16] rfl (fun ops hops => ?_)
        unfold Dsts at hops
        simp (maxSteps:=1000000)(dsimp:=false)(disch:=omega) only [go_sem, Φa, hP, h4_4, h4_5, h4_1, hops]
        repeat' ((first | refine And.intro (by omega) ?_ | fail); try (with_reducible refine stI ?_); try simp (maxSteps:=1000000)(dsimp:=false)(disch:=omega) only [go_sem, Φa, hP, h4_4, h4_5, h4_1, hops])
        refine hK12 _ _ ?_
        try clear hK12 K12
        refine SX.cond_k fun X13 Y13 hX13 hY13 => ?_
        simp (maxSteps:=1000000)(dsimp:=false)(disch:=omega) only [go_sem, Φa, hP, h4_4, h4_5, h4_1, condVC]
        refine ⟨fun hc16 => hX13 ?_, fun hc16 => hY13 ?_⟩
        · clear hX13 hY13 X13 Y13
          refine SX.skip ?_
          try simp only [andThen_normal, andThen_ret, andThen_exit, inBlk_normal, inBlk_ret, inBlk_exit, Nat.reduceEqDiff, if_true, if_false, ↓reduceIte]
          refine hK11 _ _ ?_
          try clear hK11 K11
          refine SX.seq_k fun K14 hK14 => ?_
          refine SX.block ?_
          refine SX.seq_k fun K15 hK15 => ?_
          have hmi : 4 * m < f.rows.length := by omega
          obtain ⟨Bm, dm, hcm, hdm, hsm⟩ := hA (4 * m) hmi
          obtain ⟨am, em, _, hBm⟩ := sl_at hsm
          have hlm := hful (4 * m) (by omega)
          obtain rfl := em (by omega)
          have hzm := hBm 0 (by omega)
          rw [Addr.add_zero'] at hzm
          have hpl := pageTo_len hful m (by omega)
          refine SX.region_d [some 19, some 20, some 21, some 22, some 23, some 24, some 25, some 6, none] rfl (fun ops hops => ?_)
          unfold Dsts at hops
          simp (maxSteps:=1000000)(dsimp:=false)(disch:=omega) only [go_sem, Φa, hP, h4_4, h4_5, h4_1, hops, ia_at e1]
          refine ⟨_, Cell.at 1 rfl (show (Fm.cells _ _)[1]? = _ from rfl), ?_⟩
          try with_reducible refine stI ?_
          try simp (maxSteps:=1000000)(dsimp:=false)(disch:=omega) only [go_sem, Φa, hP, h4_4, h4_5, h4_1, hops, ia_at e1]
          refine ⟨_, Cell.cons _ (Cell.cons _ hcm), ?_⟩
          try with_reducible refine stI ?_
          try simp (maxSteps:=1000000)(dsimp:=false)(disch:=omega) only [go_sem, Φa, hP, h4_4, h4_5, h4_1, hops, ia_at e1]
          refine VC_sap (hP ▸ Tryd.underlying79) rfl (by omega) ?_
          try with_reducible refine stI ?_
          try simp (maxSteps:=1000000)(dsimp:=false)(disch:=omega) only [go_sem, Φa, hP, h4_4, h4_5, h4_1, hops, ia_at e1]
          refine ⟨_, Cell.cons _ (Cell.cons _ hzm), _, Cell.cons _ (Cell.cons _ (hBm 1 (by omega))), _, Cell.cons _ (Cell.cons _ (hBm 2 (by omega))), _, Cell.cons _ (Cell.cons _ (hBm 3 (by omega))), _, Cell.cons _ (Cell.cons _ (hBm 4 (by omega))), _, Cell.cons _ (Cell.cons _ (hBm 5 (by omega))), _, Cell.cons _ (Cell.cons _ (hBm 6 (by omega))), _, Cell.cons _ (Cell.cons _ (hBm 7 (by omega))), ?_⟩
          try with_reducible refine stI ?_
          try simp (maxSteps:=1000000)(dsimp:=false)(disch:=omega) only [go_sem, Φa, hP, h4_4, h4_5, h4_1, hops, ia_at e1]
          intro g7
          try with_reducible refine stI ?_
          try simp (maxSteps:=1000000)(dsimp:=false)(disch:=omega) only [go_sem, Φa, hP, h4_4, h4_5, h4_1, hops, ia_at e1]
          refine ⟨0, _, _, _, rfl, by simp, .inr (by decide), ?_⟩
          try with_reducible refine stI ?_
          try simp (maxSteps:=1000000)(dsimp:=false)(disch:=omega) only [go_sem, Φa, hP, h4_4, h4_5, h4_1, hops, ia_at e1]
          refine hK15 _ _ ?_
          try clear hK15 K15
          refine SX.live [1, 4, 5, 6] (fun T5 hT5 => ?_)
          simp only [forall_mem_cons', forall_mem_nil', go_sem, Φa, hP, h4_4, h4_5, h4_1] at hT5
          obtain ⟨h5_1, h5_4, h5_5, h5_6⟩ := hT5
          clear h4_4 h4_5 h4_1 T4
          refine SX.seq_k fun K16 hK16 => ?_
          refine SX.seq_k fun K17 hK17 => ?_
          refine SX.region_d [some 7] rfl (fun ops hops => ?_)
          unfold Dsts at hops
          simp (maxSteps:=1000000)(dsimp:=false)(disch:=omega) only [go_sem, Φa, hP, h5_1, h5_4, h5_5, h5_6, hops]
          refine hK17 _ _ ?_
          try clear hK17 K17
          refine SX.block ?_
          refine SX.live [1, 4, 5, 6, 7] (fun T6 hT6 => ?_)
          simp only [forall_mem_cons', forall_mem_nil', go_sem, Φa, hP, h5_1, h5_4, h5_5, h5_6] at hT6
          obtain ⟨h6_1, h6_4, h6_5, h6_6, h6_7⟩ := hT6
          clear h5_1 h5_4 h5_5 h5_6 T5
          refine SX.loop_k (fun (ss : (Nat)) T L' => (fun (i : Nat) => T 7 = .int .i64 (i : Int) ∧ T 1 = T6 1 ∧ T 4 = T6 4 ∧ T 5 = T6 5 ∧ T 6 = T6 6 ∧ L' = some (g7, .cells [.int .u8 ((f.rows.getD (4 * m) []).getD 0 0), .int .u8 ((f.rows.getD (4 * m) []).getD 1 0), .int .u8 ((f.rows.getD (4 * m) []).getD 2 0), .int .u8 ((f.rows.getD (4 * m) []).getD 3 0), .int .u8 ((f.rows.getD (4 * m) []).getD 4 0), .int .u8 ((f.rows.getD (4 * m) []).getD 5 0), .int .u8 ((f.rows.getD (4 * m) []).getD 6 0), .int .u8 ((f.rows.getD (4 * m) []).getD 7 0)].toArray 79 (0, 0)) :: so :: some (b0, .cells (f.cells (.slice A f.rows.length c)).toArray 41 (0, 0)) :: L ∧ (1 ≤ i ∧ i ≤ 4 ∧ ∀ j, j < i → f.rows.getD (4 * m + j) [] = f.rows.getD (4 * m) [])) (ss)) (fun (ss : (Nat)) => (fun (i : Nat) => 4 - i) (ss)) 1 ?_ ?_
          · try dsimp only
            refine ⟨?_, ?_, ?_, ?_, ?_, ?_, ?_⟩
            · first | exact h6_7 | (rw [h6_7]; rfl) | (rw [h6_7]; simp; done)
            · rfl
            · rfl
            · rfl
            · rfl
            · rfl
            · exact ⟨Nat.le_refl _, by decide, fun j hj => by rw [show j = 0 by omega]; rfl⟩
          · intro i T7 L7 hI K18 hK18
            try dsimp only at hI hK18
            simp only [h6_1, h6_4, h6_5, h6_6] at hI hK18
            obtain ⟨h7_7, h7_1, h7_4, h7_5, h7_6, hL7, ⟨hi1, hi2, hi4⟩⟩ := hI
            replace hL7 := hL7.symm
            subst hL7
            clear h6_1 h6_4 h6_5 h6_6 h6_7 T6
            refine SX.seq_k fun K19 hK19 => ?_
            refine SX.seq_k fun K20 hK20 => ?_
            refine SX.region_d [some 26, some 27] rfl (fun ops hops => ?_)
            unfold Dsts at hops
            simp (maxSteps:=1000000)(dsimp:=false)(disch:=omega) only [go_sem, Φa, hP, h7_7, h7_1, h7_4, h7_5, h7_6, hops]
            repeat' ((first | refine And.intro (by omega) ?_ | fail); try (with_reducible refine stI ?_); try simp (maxSteps:=1000000)(dsimp:=false)(disch:=omega) only [go_sem, Φa, hP, h7_7, h7_1, h7_4, h7_5, h7_6, hops])
            refine hK20 _ _ ?_
            try clear hK20 K20
            refine SX.cond_k fun X21 Y21 hX21 hY21 => ?_
            simp (maxSteps:=1000000)(dsimp:=false)(disch:=omega) only [go_sem, Φa, hP, h7_7, h7_1, h7_4, h7_5, h7_6, condVC]
            refine ⟨fun hc27 => hX21 ?_, fun hc27 => hY21 ?_⟩
            · clear hX21 hY21 X21 Y21
              refine SX.skip ?_
              try simp only [andThen_normal, andThen_ret, andThen_exit, inBlk_normal, inBlk_ret, inBlk_exit, Nat.reduceEqDiff, if_true, if_false, ↓reduceIte]
              refine hK19 _ _ ?_
              try clear hK19 K19
              refine SX.seq_k fun K22 hK22 => ?_
              refine SX.block ?_
              refine SX.seq_k fun K23 hK23 => ?_
              have hii : 4 * m + i < f.rows.length := by omega
              obtain ⟨Bi, di, hci, hdi, hsi⟩ := hA (4 * m + i) hii
              obtain ⟨ai, ei, _, hBi⟩ := sl_at hsi
              have hli := hful (4 * m + i) (by omega)
              obtain rfl := ei (by omega)
              have hzi := hBi 0 (by omega)
              rw [Addr.add_zero'] at hzi
              have hbi := row_byte hby hii
              have hbm := row_byte hby hmi
              have hoi := ok8 hli hbi
              have hom := ok8 hlm hbm
              rw [ints8 hli] at hoi
              rw [ints8 hlm] at hom
              have hidx : ((4 * m : Nat) : Int) + (i : Int) = ((4 * m + i : Nat) : Int) := by omega
              refine SX.quiet_d (hP ▸ T.mixed) (by kernel_rfl) [some 30, some 31, some 32, some 33, some 34, some 35, some 36, some 37, some 38, some 39, some 40] rfl (fun ops hops => ?_)
              unfold Dsts at hops
              simp (maxSteps:=1000000)(dsimp:=false)(disch:=omega) only [go_sem, Φa, hP, h7_7, h7_1, h7_4, h7_5, h7_6, hops, ia_at e1, hidx]
              refine ⟨_, Cell.at 2 rfl (show (Fm.cells _ _)[1]? = _ from rfl), ?_⟩
              try with_reducible refine stI ?_
              try simp (maxSteps:=1000000)(dsimp:=false)(disch:=omega) only [go_sem, Φa, hP, h7_7, h7_1, h7_4, h7_5, h7_6, hops, ia_at e1, hidx]
              refine ⟨_, Cell.cons _ (Cell.cons _ (Cell.cons _ hci)), ?_⟩
              try with_reducible refine stI ?_
              try simp (maxSteps:=1000000)(dsimp:=false)(disch:=omega) only [go_sem, Φa, hP, h7_7, h7_1, h7_4, h7_5, h7_6, hops, ia_at e1, hidx]
              refine VQ_sap (hP ▸ Tryd.underlying79) rfl (by omega) ?_
              try with_reducible refine stI ?_
              try simp (maxSteps:=1000000)(dsimp:=false)(disch:=omega) only [go_sem, Φa, hP, h7_7, h7_1, h7_4, h7_5, h7_6, hops, ia_at e1, hidx]
              refine ⟨_, Cell.cons _ (Cell.cons _ (Cell.cons _ hzi)), _, Cell.cons _ (Cell.cons _ (Cell.cons _ (hBi 1 (by omega)))), _, Cell.cons _ (Cell.cons _ (Cell.cons _ (hBi 2 (by omega)))), _, Cell.cons _ (Cell.cons _ (Cell.cons _ (hBi 3 (by omega)))), _, Cell.cons _ (Cell.cons _ (Cell.cons _ (hBi 4 (by omega)))), _, Cell.cons _ (Cell.cons _ (Cell.cons _ (hBi 5 (by omega)))), _, Cell.cons _ (Cell.cons _ (Cell.cons _ (hBi 6 (by omega)))), _, Cell.cons _ (Cell.cons _ (Cell.cons _ (hBi 7 (by omega)))), ?_⟩
              try with_reducible refine stI ?_
              try simp (maxSteps:=1000000)(dsimp:=false)(disch:=omega) only [go_sem, Φa, hP, h7_7, h7_1, h7_4, h7_5, h7_6, hops, ia_at e1, hidx]
              refine ⟨_, Cell.at 0 rfl rfl, _, Cell.at 0 rfl rfl, _, Cell.at 0 rfl rfl, _, Cell.at 0 rfl rfl, _, Cell.at 0 rfl rfl, _, Cell.at 0 rfl rfl, _, Cell.at 0 rfl rfl, _, Cell.at 0 rfl rfl, ?_⟩
              try with_reducible refine stI ?_
              try simp (maxSteps:=1000000)(dsimp:=false)(disch:=omega) only [go_sem, Φa, hP, h7_7, h7_1, h7_4, h7_5, h7_6, hops, ia_at e1, hidx]
              refine aggEq_of eqT_79 hoi hom (fun r hr2 => ?_)
              rw [← ints8 hli, ← ints8 hlm] at hr2
              obtain rfl := eq8 hr2
              try with_reducible refine stI ?_
              try simp (maxSteps:=1000000)(dsimp:=false)(disch:=omega) only [go_sem, Φa, hP, h7_7, h7_1, h7_4, h7_5, h7_6, hops, ia_at e1, hidx]
              refine hK23 _ _ ?_
              try clear hK23 K23
              refine SX.live [1, 4, 5, 6, 7, 40] (fun T8 hT8 => ?_)
              simp only [forall_mem_cons', forall_mem_nil', go_sem, Φa, hP, h7_7, h7_1, h7_4, h7_5, h7_6] at hT8
              obtain ⟨h8_1, h8_4, h8_5, h8_6, h8_7, h8_40⟩ := hT8
              clear h7_7 h7_1 h7_4 h7_5 h7_6 T7
              refine SX.cond_k fun X24 Y24 hX24 hY24 => ?_
              simp (maxSteps:=1000000)(dsimp:=false)(disch:=omega) only [go_sem, Φa, hP, h8_1, h8_4, h8_5, h8_6, h8_7, h8_40, condVC]
              refine ⟨fun hc40 => hX24 ?_, fun hc40 => hY24 ?_⟩
              · clear hX24 hY24 X24 Y24
                refine SX.seq_k fun K25 hK25 => ?_
                refine SX.region_d [some 2, some 3] rfl (fun ops hops => ?_)
                unfold Dsts at hops
                simp (maxSteps:=1000000)(dsimp:=false)(disch:=omega) only [go_sem, Φa, hP, h8_1, h8_4, h8_5, h8_6, h8_7, h8_40, hops]
                refine hK25 _ _ ?_
                try clear hK25 K25
                refine SX.ret ?_
                simp only [andThen_normal, andThen_ret, andThen_exit, inBlk_normal, inBlk_ret, inBlk_exit, Nat.reduceEqDiff, if_true, if_false, ↓reduceIte, retQ_ret]
                try simp only [res0, res1, res2, res3, stK_e, go_sem, Φa, hP, h8_1, h8_4, h8_5, h8_6, h8_7, h8_40]
                exact ⟨_, _, Less.drops (Less.drops ((Less.drop _ _).trans (Less.none _))), rfl, PageR.none (pageP_off (i := 4 * m + i) (by omega) (by rw [show (4 * m + i) / 4 * 4 = 4 * m by omega]; simpa using hc40))⟩
              · clear hX24 hY24 X24 Y24
                refine SX.skip ?_
                try simp only [andThen_normal, andThen_ret, andThen_exit, inBlk_normal, inBlk_ret, inBlk_exit, Nat.reduceEqDiff, if_true, if_false, ↓reduceIte]
                refine hK22 _ _ ?_
                try clear hK22 K22
                refine SX.region_d [some 28, some 29, some 7] rfl (fun ops hops => ?_)
                unfold Dsts at hops
                simp (maxSteps:=1000000)(dsimp:=false)(disch:=omega) only [go_sem, Φa, hP, h8_1, h8_4, h8_5, h8_6, h8_7, h8_40, hops]
                repeat' ((first | refine And.intro (by omega) ?_ | fail); try (with_reducible refine stI ?_); try simp (maxSteps:=1000000)(dsimp:=false)(disch:=omega) only [go_sem, Φa, hP, h8_1, h8_4, h8_5, h8_6, h8_7, h8_40, hops])
                refine hK18 (i + 1) _ (some (g7, .cells [.int .u8 ((f.rows.getD (4 * m) []).getD 0 0), .int .u8 ((f.rows.getD (4 * m) []).getD 1 0), .int .u8 ((f.rows.getD (4 * m) []).getD 2 0), .int .u8 ((f.rows.getD (4 * m) []).getD 3 0), .int .u8 ((f.rows.getD (4 * m) []).getD 4 0), .int .u8 ((f.rows.getD (4 * m) []).getD 5 0), .int .u8 ((f.rows.getD (4 * m) []).getD 6 0), .int .u8 ((f.rows.getD (4 * m) []).getD 7 0)].toArray 79 (0, 0)) :: so :: some (b0, .cells (f.cells (.slice A f.rows.length c)).toArray 41 (0, 0)) :: L) _ (by first | exact Less.refl _ | exact Less.drop _ _ | exact Less.drops (Less.drop _ _) | exact Less.drops (Less.drops (Less.drop _ _)) | exact Less.drops (Less.drops (Less.drops (Less.drop _ _))) | exact Less.drops (Less.drops (Less.drops (Less.drops (Less.drop _ _))))) ?_ ?_
                · try dsimp only
                  refine ⟨?_, ?_, ?_, ?_, ?_, ?_, ?_⟩
                  · simp (maxSteps:=1000000)(dsimp:=false)(disch:=omega) only [go_sem, Φa, hP, h8_1, h8_4, h8_5, h8_6, h8_7, h8_40]
                    first | done | rfl | skip
                  · simp (maxSteps:=1000000)(dsimp:=false)(disch:=omega) only [go_sem, Φa, hP, h8_1, h8_4, h8_5, h8_6, h8_7, h8_40]
                  · simp (maxSteps:=1000000)(dsimp:=false)(disch:=omega) only [go_sem, Φa, hP, h8_1, h8_4, h8_5, h8_6, h8_7, h8_40]
                  · simp (maxSteps:=1000000)(dsimp:=false)(disch:=omega) only [go_sem, Φa, hP, h8_1, h8_4, h8_5, h8_6, h8_7, h8_40]
                  · simp (maxSteps:=1000000)(dsimp:=false)(disch:=omega) only [go_sem, Φa, hP, h8_1, h8_4, h8_5, h8_6, h8_7, h8_40]
                  · rfl
                  · refine ⟨by omega, by omega, fun j hj => ?_⟩
                    rcases Nat.lt_succ_iff_lt_or_eq.1 hj with h | rfl
                    · exact hi4 j h
                    · simpa using hc40
                · (try dsimp only); omega
            · clear hX21 hY21 X21 Y21
              refine SX.exit ?_
              try simp only [andThen_normal, andThen_ret, andThen_exit, inBlk_normal, inBlk_ret, inBlk_exit, Nat.reduceEqDiff, if_true, if_false, ↓reduceIte]
              refine hK16 _ _ ?_
              try clear hK16 K16
              refine SX.region_d [some 41, some 42, some 43, some 4] rfl (fun ops hops => ?_)
              unfold Dsts at hops
              simp (maxSteps:=1000000)(dsimp:=false)(disch:=omega) only [go_sem, Φa, hP, h7_7, h7_1, h7_4, h7_5, h7_6, hops, cutA0, Nat.sub_zero]
              have hx8 : SlI .u8 (Cell Γ (some (g7, .cells [.int .u8 ((f.rows.getD (4 * m) []).getD 0 0), .int .u8 ((f.rows.getD (4 * m) []).getD 1 0), .int .u8 ((f.rows.getD (4 * m) []).getD 2 0), .int .u8 ((f.rows.getD (4 * m) []).getD 3 0), .int .u8 ((f.rows.getD (4 * m) []).getD 4 0), .int .u8 ((f.rows.getD (4 * m) []).getD 5 0), .int .u8 ((f.rows.getD (4 * m) []).getD 6 0), .int .u8 ((f.rows.getD (4 * m) []).getD 7 0)].toArray 79 (0, 0)) :: so :: some (b0, .cells (f.cells (.slice A f.rows.length c)).toArray 41 (0, 0)) :: L)) (.slice (some ⟨g7, 0, none⟩) 8 8) (f.rows.getD (4 * m) []) := SlI.own (xs := (f.rows.getD (4 * m) [])) 0 (by rw [ints8 hlm]; rfl) hlm.symm (Nat.le_refl _)
              refine YAppend.ints (i := 1) (hP ▸ T.elS_50) (hP ▸ T.zr_5) rfl rfl hrow hx8 (by omega) (by decide) ?_
              intro v' s' hrow'
              try with_reducible refine stI ?_
              try simp (maxSteps:=1000000)(dsimp:=false)(disch:=omega) only [go_sem, Φa, hP, h7_7, h7_1, h7_4, h7_5, h7_6, hops, cutA0, Nat.sub_zero]
              refine hK14 _ _ ?_
              try clear hK14 K14
              refine SX.region_d [some 17, some 18, some 5] rfl (fun ops hops => ?_)
              unfold Dsts at hops
              simp (maxSteps:=1000000)(dsimp:=false)(disch:=omega) only [go_sem, Φa, hP, h7_7, h7_1, h7_4, h7_5, h7_6, hops]
              repeat' ((first | refine And.intro (by omega) ?_ | fail); try (with_reducible refine stI ?_); try simp (maxSteps:=1000000)(dsimp:=false)(disch:=omega) only [go_sem, Φa, hP, h7_7, h7_1, h7_4, h7_5, h7_6, hops])
              refine hK10 (m + 1, v', s') _ (s' :: some (b0, .cells (f.cells (.slice A f.rows.length c)).toArray 41 (0, 0)) :: L) _ (by exact Less.drop _ _) ?_ ?_
              · try dsimp only
                refine ⟨?_, ?_, ?_, ?_, ?_⟩
                · simp (maxSteps:=1000000)(dsimp:=false)(disch:=omega) only [go_sem, Φa, hP, h7_7, h7_1, h7_4, h7_5, h7_6]
                  first | done | rfl | skip
                · simp (maxSteps:=1000000)(dsimp:=false)(disch:=omega) only [go_sem, Φa, hP, h7_7, h7_1, h7_4, h7_5, h7_6]
                  refine congrArg (Value.int .i64) ?_; omega
                · simp (maxSteps:=1000000)(dsimp:=false)(disch:=omega) only [go_sem, Φa, hP, h7_7, h7_1, h7_4, h7_5, h7_6]
                · rfl
                · refine ⟨by omega, fun j hj => ?_, hrow'⟩
                  by_cases hjm : j < 4 * m
                  · exact hin j hjm
                  · have hj4 := hi4 (j - 4 * m) (by omega)
                    rw [show 4 * m + (j - 4 * m) = j by omega] at hj4
                    rw [hj4, show j / 4 * 4 = 4 * m by omega]
              · (try dsimp only); omega
        · clear hX13 hY13 X13 Y13
          refine SX.exit ?_
          try simp only [andThen_normal, andThen_ret, andThen_exit, inBlk_normal, inBlk_ret, inBlk_exit, Nat.reduceEqDiff, if_true, if_false, ↓reduceIte]
          refine hK8 _ _ ?_
          try clear hK8 K8
          refine SX.seq_k fun K26 hK26 => ?_
          refine SX.region_d [some 44, some 2, some 3] rfl (fun ops hops => ?_)
          unfold Dsts at hops
          simp (maxSteps:=1000000)(dsimp:=false)(disch:=omega) only [go_sem, Φa, hP, h4_4, h4_5, h4_1, hops]
          refine hK26 _ _ ?_
          try clear hK26 K26
          refine SX.ret ?_
          simp only [andThen_normal, andThen_ret, andThen_exit, inBlk_normal, inBlk_ret, inBlk_exit, Nat.reduceEqDiff, if_true, if_false, ↓reduceIte, retQ_ret]
          try simp only [res0, res1, res2, res3, stK_e, go_sem, Φa, hP, h4_4, h4_5, h4_1]
          obtain rfl : m = 32 := by omega
          exact ⟨_, _, less_mid1, rfl, PageR.some (pageP_yes hc14 hin) hrow⟩
set_option maxHeartbeats 1000000 in
set_option maxRecDepth 100000 in
theorem refPage_spec {Γ : Ctx} (hP : Γ.P = Tryd.prog) {L : Hp} {v : Value} {f : Fm} (hr : SlR (Cell Γ L) v f.rows) (hm : cnt f.rows ≤ 9000000000000000000) (hrl : f.rows.length ≤ 9000000000000000000) (hby : ∀ i, i < f.rows.length → ∀ j, j < (f.rows.getD i []).length → 0 ≤ (f.rows.getD i []).getD j 0 ∧ (f.rows.getD i []).getD j 0 ≤ 255) :
    SCall Γ 23 #[(.agg (f.cells v).toArray)] L (PageR f L) := by
  obtain ⟨A, c, rfl, hc⟩ := Sl.shape hr
  obtain ⟨a1, e1, _, hA⟩ := slR_at hr
  refine SCall.enter (n := 46) (res2 2 3) (hP ▸ Tryd.func23) rfl rfl (by simp) (res2_ok rfl) ?_
  refine SX.seq_k fun K1 hK1 => ?_
  refine SX.region_d [some 1, some 2, some 3] rfl (fun ops hops => ?_)
  unfold Dsts at hops
  simp (maxSteps:=1000000)(dsimp:=false)(disch:=omega) only [go_sem, Φa, hP, hops]
  intro b0
  try with_reducible refine stI ?_
  try simp (maxSteps:=1000000)(dsimp:=false)(disch:=omega) only [go_sem, Φa, hP, hops]
  refine hK1 _ _ ?_
  try clear hK1 K1
  refine SX.seq_k fun K2 hK2 => ?_
  refine SX.region_d [some 8, some 9, some 4] rfl (fun ops hops => ?_)
  unfold Dsts at hops
  simp (maxSteps:=1000000)(dsimp:=false)(disch:=omega) only [go_sem, Φa, hP, hops]
  refine ⟨_, Cell.at 0 rfl (show (Fm.cells _ _)[0]? = _ from rfl), _, Cell.at 0 rfl (show (Fm.cells _ _)[1]? = _ from rfl), _, Cell.at 0 rfl (show (Fm.cells _ _)[2]? = _ from rfl), ?_⟩
  try with_reducible refine stI ?_
  try simp (maxSteps:=1000000)(dsimp:=false)(disch:=omega) only [go_sem, Φa, hP, hops]
  refine SCall.mono (May_spec (f := f) hP (SlR.mono (fun a v h => Cell.cons _ h) hr) hm hrl) ?_
  rintro v_ L_ ⟨hv_, hL_⟩
  rw [hv_, hL_]
  clear hv_ hL_ v_ L_
  try with_reducible refine stI ?_
  try simp (maxSteps:=1000000)(dsimp:=false)(disch:=omega) only [go_sem, Φa, hP, hops]
  refine hK2 _ _ ?_
  try clear hK2 K2
  refine SX.seq_k fun K3 hK3 => ?_
  refine SX.seq_k fun K4 hK4 => ?_
  refine SX.region_xd [some 10, some 11, some 12, some 13, some 14, some 15] rfl (fun ops hops => ?_)
  unfold Dsts at hops
  refine RX.live [1, 4] (fun T1 hT1 => ?_)
  simp only [forall_mem_cons', forall_mem_nil', go_sem, Φa, hP] at hT1
  obtain ⟨h1_1, h1_4⟩ := hT1
  refine RX.join 6 (fun (ss : Unit) T L' => T 15 = .bool (!mayF f || f.sh) ∧ T 1 = T1 1 ∧ L' = some (b0, .cells (f.cells (.slice A f.rows.length c)).toArray 41 (0, 0)) :: L ∧ (True)) (fun K5 hK5 => ?_) ?_
  · simp only [h1_1] at hK5
    simp (maxSteps:=1000000)(dsimp:=false)(disch:=omega) only [go_sem, Φa, hP, h1_1, h1_4, hops]
    repeat' (first | refine iteB (fun hg => ?_) (fun hg => ?_) | refine iteI (fun hg => ?_) (fun hg => ?_) | ((first | refine ⟨_, Cell.at 0 rfl (show (Fm.cells _ _)[2]? = _ from rfl), ?_⟩ | refine And.intro (by omega) ?_ | refine ⟨_, Cell.at 0 rfl rfl, ?_⟩ | fail); try (with_reducible refine stI ?_); try simp (maxSteps:=1000000)(dsimp:=false)(disch:=omega) only [go_sem, Φa, hP, h1_1, h1_4, hops]) | fail)
    all_goals
      refine hK5 () _ (some (b0, .cells (f.cells (.slice A f.rows.length c)).toArray 41 (0, 0)) :: L) _ (by first | exact Less.refl _ | exact Less.drop _ _ | exact Less.drops (Less.drop _ _) | exact Less.drops (Less.drops (Less.drop _ _)) | exact Less.drops (Less.drops (Less.drops (Less.drop _ _))) | exact Less.drops (Less.drops (Less.drops (Less.drops (Less.drop _ _))))) ?_
      try dsimp only
      refine ⟨?_, ?_, ?_, ?_⟩
      · simp (maxSteps:=1000000)(dsimp:=false)(disch:=omega) only [go_sem, Φa, hP, h1_1, h1_4]
        first | done | rfl | (refine congrArg Value.bool ?_; simp_all; done)
      · simp (maxSteps:=1000000)(dsimp:=false)(disch:=omega) only [go_sem, Φa, hP, h1_1, h1_4]
      · rfl
      · trivial
  · intro ss T2 L2 hI
    simp only [h1_1] at hI 
    obtain ⟨h2_15, h2_1, hL2, hinv⟩ := hI
    replace hL2 := hL2.symm
    subst hL2
    clear h1_1 h1_4 T1
    refine RX.done ?_
    simp (maxSteps:=1000000)(dsimp:=false)(disch:=omega) only [go_sem, Φa, hP, h2_15, h2_1, hops]
    refine hK4 _ _ ?_
    try clear hK4 K4
    refine SX.cond_k fun X6 Y6 hX6 hY6 => ?_
    simp (maxSteps:=1000000)(dsimp:=false)(disch:=omega) only [go_sem, Φa, hP, h2_15, h2_1, condVC]
    refine ⟨fun hc15 => hX6 ?_, fun hc15 => hY6 ?_⟩
    · clear hX6 hY6 X6 Y6
      refine SX.seq_k fun K7 hK7 => ?_
      refine SX.region_d [some 2, some 3] rfl (fun ops hops => ?_)
      unfold Dsts at hops
      simp (maxSteps:=1000000)(dsimp:=false)(disch:=omega) only [go_sem, Φa, hP, h2_15, h2_1, hops]
      refine hK7 _ _ ?_
      try clear hK7 K7
      refine SX.ret ?_
      simp only [andThen_normal, andThen_ret, andThen_exit, inBlk_normal, inBlk_ret, inBlk_exit, Nat.reduceEqDiff, if_true, if_false, ↓reduceIte, retQ_ret]
      try simp only [res0, res1, res2, res3, stK_e, go_sem, Φa, hP, h2_15, h2_1]
      exact ⟨_, _, (Less.drop _ _).trans (Less.none _), rfl, PageR.none (pageP_no hc15)⟩
    · clear hX6 hY6 X6 Y6
      refine SX.skip ?_
      try simp only [andThen_normal, andThen_ret, andThen_exit, inBlk_normal, inBlk_ret, inBlk_exit, Nat.reduceEqDiff, if_true, if_false, ↓reduceIte]
      refine hK3 _ _ ?_
      try clear hK3 K3
      refine SX.seq_k fun K8 hK8 => ?_
      have hmf := hc15
      rw [Bool.or_eq_false_iff, Bool.not_eq_false'] at hmf
      have hful0 := (of_mayF hmf.1).2.2.2
      have hful := full8 hmf.1 hmf.2
      have h128 := (of_mayF hmf.1).2.1
      refine SX.region_d [some 5] rfl (fun ops hops => ?_)
      unfold Dsts at hops
      simp (maxSteps:=1000000)(dsimp:=false)(disch:=omega) only [go_sem, Φa, hP, h2_15, h2_1, hops]
      refine hK8 _ _ ?_
      try clear hK8 K8
      refine SX.seq_k fun K9 hK9 => ?_
      refine SX.seq_k fun K10 hK10 => ?_
      refine SX.less (Less.none _) ?_
      refine SX.region_d [some 6] rfl (fun ops hops => ?_)
      unfold Dsts at hops
      simp (maxSteps:=1000000)(dsimp:=false)(disch:=omega) only [go_sem, Φa, hP, h2_15, h2_1, hops]
      refine hK10 _ _ ?_
      try clear hK10 K10
      refine SX.block ?_
      refine SX.live [1, 5, 6] (fun T3 hT3 => ?_)
      simp only [forall_mem_cons', forall_mem_nil', go_sem, Φa, hP, h2_15, h2_1] at hT3
      obtain ⟨h3_1, h3_5, h3_6⟩ := hT3
      clear h2_15 h2_1 T2
      refine SX.loop_k (fun (ss : (Nat) × (Value) × (Slot)) T L' => (fun (i : Nat) (vo : Value) (so : Slot) => T 5 = vo ∧ T 6 = .int .i64 (i : Int) ∧ T 1 = T3 1 ∧ L' = so :: some (b0, .cells (f.cells (.slice A f.rows.length c)).toArray 41 (0, 0)) :: L ∧ (i ≤ 128 ∧ (∀ j, j < i → f.rows.getD j [] = f.rows.getD (j / 4 * 4) []) ∧ RowI .u8 5 vo (pageTo f.rows ((i + 3) / 4)) so)) (ss.1) (ss.2.1) (ss.2.2)) (fun (ss : (Nat) × (Value) × (Slot)) => (fun (i : Nat) (vo : Value) (so : Slot) => 128 - i) (ss.1) (ss.2.1) (ss.2.2)) (0, .slice none 0 0, none) ?_ ?_
      · try dsimp only
        refine ⟨?_, ?_, ?_, ?_, ?_⟩
        · first | exact h3_5 | (rw [h3_5]; rfl) | (rw [h3_5]; simp; done)
        · first | exact h3_6 | (rw [h3_6]; rfl) | (rw [h3_6]; simp; done)
        · rfl
        · rfl
        · exact ⟨Nat.zero_le _, fun i hi => absurd hi (Nat.not_lt_zero _), RowI.nil _ _⟩
      · intro ss T4 L4 hI K11 hK11
        obtain ⟨i, vo, so⟩ := ss
        try dsimp only at hI hK11
        simp only [h3_1] at hI hK11
        obtain ⟨h4_5, h4_6, h4_1, hL4, ⟨hi, hin, hrow⟩⟩ := hI
        replace hL4 := hL4.symm
        subst hL4
        clear h3_1 h3_5 h3_6 T3
        refine SX.seq_k fun K12 hK12 => ?_
        refine SX.seq_k fun K13 hK13 => ?_
        refine SX.region_d [some 16, some 17] rfl (fun ops hops => ?_)
        unfold Dsts at hops
        simp (maxSteps:=1000000)(dsimp:=false)(disch:=omega) only [go_sem, Φa, hP, h4_5, h4_6, h4_1, hops]
        repeat' ((first | refine And.intro (by omega) ?_ | fail); try (with_reducible refine stI ?_); try simp (maxSteps:=1000000)(dsimp:=false)(disch:=omega) only [go_sem, Φa, hP, h4_5, h4_6, h4_1, hops])
        refine hK13 _ _ ?_
        try clear hK13 K13
        refine SX.cond_k fun X14 Y14 hX14 hY14 => ?_
        simp (maxSteps:=1000000)(dsimp:=false)(disch:=omega) only [go_sem, Φa, hP, h4_5, h4_6, h4_1, condVC]
        refine ⟨fun hc17 => hX14 ?_, fun hc17 => hY14 ?_⟩
        · clear hX14 hY14 X14 Y14
          refine SX.skip ?_
          try simp only [andThen_normal, andThen_ret, andThen_exit, inBlk_normal, inBlk_ret, inBlk_exit, Nat.reduceEqDiff, if_true, if_false, ↓reduceIte]
          refine hK12 _ _ ?_
          try clear hK12 K12
          refine SX.seq_k fun K15 hK15 => ?_
          refine SX.block ?_
          refine SX.seq_k fun K16 hK16 => ?_
          have hii : i < f.rows.length := by omega
          obtain ⟨Bi, di, hci, hdi, hsi⟩ := hA (i) hii
          have h8i := hful0 (i) hii
          have hqi : i / 4 * 4 < f.rows.length := by omega
          obtain ⟨Bq, dq, hcq, hdq, hsq⟩ := hA (i / 4 * 4) hqi
          have h8q := hful0 (i / 4 * 4) hqi
          have htd : (i : Int).tdiv 4 = ((i / 4 : Nat) : Int) := by rw [Int.tdiv_eq_ediv_of_nonneg (Int.natCast_nonneg _)]; omega
          have hidx : ((i / 4 : Nat) : Int) * 4 = ((i / 4 * 4 : Nat) : Int) := by omega
          have htm : (i : Int).tmod 4 = ((i % 4 : Nat) : Int) := tmod_nat i 4
          have hpl := pageTo_len hful ((i + 3) / 4) (by omega)
          refine SX.quiet_d (hP ▸ T.mixed) (by kernel_rfl) [some 20, some 21, some 22, some 23, some 24, some 25, some 26, some 27, some 28, some 29, some 30, some 31, some 32, some 7] rfl (fun ops hops => ?_)
          unfold Dsts at hops
          simp (maxSteps:=1000000)(dsimp:=false)(disch:=omega) only [go_sem, Φa, hP, h4_5, h4_6, h4_1, hops, ia_at e1, htd, hidx]
          refine ⟨_, Cell.at 1 rfl (show (Fm.cells _ _)[1]? = _ from rfl), ?_⟩
          try with_reducible refine stI ?_
          try simp (maxSteps:=1000000)(dsimp:=false)(disch:=omega) only [go_sem, Φa, hP, h4_5, h4_6, h4_1, hops, ia_at e1, htd, hidx]
          refine ⟨_, Cell.cons _ (Cell.cons _ hci), ?_⟩
          try with_reducible refine stI ?_
          try simp (maxSteps:=1000000)(dsimp:=false)(disch:=omega) only [go_sem, Φa, hP, h4_5, h4_6, h4_1, hops, ia_at e1, htd, hidx]
          refine ⟨_, Cell.at 1 rfl (show (Fm.cells _ _)[1]? = _ from rfl), ?_⟩
          try with_reducible refine stI ?_
          try simp (maxSteps:=1000000)(dsimp:=false)(disch:=omega) only [go_sem, Φa, hP, h4_5, h4_6, h4_1, hops, ia_at e1, htd, hidx]
          refine ⟨_, Cell.cons _ (Cell.cons _ hcq), ?_⟩
          try with_reducible refine stI ?_
          try simp (maxSteps:=1000000)(dsimp:=false)(disch:=omega) only [go_sem, Φa, hP, h4_5, h4_6, h4_1, hops, ia_at e1, htd, hidx]
          refine ⟨_, SameBytes_spec hP (SlI.cons _ (SlI.cons _ hsi)) (SlI.cons _ (SlI.cons _ hsq)) (by omega), ?_⟩
          try with_reducible refine stI ?_
          try simp (maxSteps:=1000000)(dsimp:=false)(disch:=omega) only [go_sem, Φa, hP, h4_5, h4_6, h4_1, hops, ia_at e1, htd, hidx]
          refine hK16 _ _ ?_
          try clear hK16 K16
          refine SX.live [1, 5, 6, 7] (fun T5 hT5 => ?_)
          simp only [forall_mem_cons', forall_mem_nil', go_sem, Φa, hP, h4_5, h4_6, h4_1] at hT5
          obtain ⟨h5_1, h5_5, h5_6, h5_7⟩ := hT5
          clear h4_5 h4_6 h4_1 T4
          refine SX.seq_k fun K17 hK17 => ?_
          refine SX.seq_k fun K18 hK18 => ?_
          refine SX.region_d [some 33, some 34] rfl (fun ops hops => ?_)
          unfold Dsts at hops
          simp (maxSteps:=1000000)(dsimp:=false)(disch:=omega) only [go_sem, Φa, hP, h5_1, h5_5, h5_6, h5_7, hops]
          refine hK18 _ _ ?_
          try clear hK18 K18
          refine SX.cond_k fun X19 Y19 hX19 hY19 => ?_
          simp (maxSteps:=1000000)(dsimp:=false)(disch:=omega) only [go_sem, Φa, hP, h5_1, h5_5, h5_6, h5_7, condVC]
          refine ⟨fun hc34 => hX19 ?_, fun hc34 => hY19 ?_⟩
          · clear hX19 hY19 X19 Y19
            refine SX.seq_k fun K20 hK20 => ?_
            refine SX.region_d [some 2, some 3] rfl (fun ops hops => ?_)
            unfold Dsts at hops
            simp (maxSteps:=1000000)(dsimp:=false)(disch:=omega) only [go_sem, Φa, hP, h5_1, h5_5, h5_6, h5_7, hops]
            refine hK20 _ _ ?_
            try clear hK20 K20
            refine SX.ret ?_
            simp only [andThen_normal, andThen_ret, andThen_exit, inBlk_normal, inBlk_ret, inBlk_exit, Nat.reduceEqDiff, if_true, if_false, ↓reduceIte, retQ_ret]
            try simp only [res0, res1, res2, res3, stK_e, go_sem, Φa, hP, h5_1, h5_5, h5_6, h5_7]
            exact ⟨_, _, Less.drops ((Less.drop _ _).trans (Less.none _)), rfl, PageR.none (pageP_off (i := i) (by omega) (by simpa using hc34))⟩
          · clear hX19 hY19 X19 Y19
            refine SX.skip ?_
            try simp only [andThen_normal, andThen_ret, andThen_exit, inBlk_normal, inBlk_ret, inBlk_exit, Nat.reduceEqDiff, if_true, if_false, ↓reduceIte]
            refine hK17 _ _ ?_
            try clear hK17 K17
            refine SX.seq_k fun K21 hK21 => ?_
            refine SX.region_d [some 35, some 36, some 37] rfl (fun ops hops => ?_)
            unfold Dsts at hops
            simp (maxSteps:=1000000)(dsimp:=false)(disch:=omega) only [go_sem, Φa, hP, h5_1, h5_5, h5_6, h5_7, hops, htm]
            repeat' ((first | refine And.intro (by omega) ?_ | fail); try (with_reducible refine stI ?_); try simp (maxSteps:=1000000)(dsimp:=false)(disch:=omega) only [go_sem, Φa, hP, h5_1, h5_5, h5_6, h5_7, hops, htm])
            refine hK21 _ _ ?_
            try clear hK21 K21
            refine SX.cond_k fun X22 Y22 hX22 hY22 => ?_
            simp (maxSteps:=1000000)(dsimp:=false)(disch:=omega) only [go_sem, Φa, hP, h5_1, h5_5, h5_6, h5_7, condVC]
            refine ⟨fun hc37 => hX22 ?_, fun hc37 => hY22 ?_⟩
            · clear hX22 hY22 X22 Y22
              refine SX.region_d [some 38, some 39, some 40, some 41, some 42, some 43, some 44, some 5] rfl (fun ops hops => ?_)
              unfold Dsts at hops
              simp (maxSteps:=1000000)(dsimp:=false)(disch:=omega) only [go_sem, Φa, hP, h5_1, h5_5, h5_6, h5_7, hops, ia_at e1]
              refine ⟨_, Cell.at 1 rfl (show (Fm.cells _ _)[1]? = _ from rfl), ?_⟩
              try with_reducible refine stI ?_
              try simp (maxSteps:=1000000)(dsimp:=false)(disch:=omega) only [go_sem, Φa, hP, h5_1, h5_5, h5_6, h5_7, hops, ia_at e1]
              refine ⟨_, Cell.cons _ (Cell.cons _ hci), ?_⟩
              try with_reducible refine stI ?_
              try simp (maxSteps:=1000000)(dsimp:=false)(disch:=omega) only [go_sem, Φa, hP, h5_1, h5_5, h5_6, h5_7, hops, ia_at e1]
              refine YAppend.ints (i := 0) (hP ▸ T.elS_50) (hP ▸ T.zr_5) rfl rfl hrow (SlI.cons _ (SlI.cons _ hsi)) (by omega) (by decide) ?_
              intro v' s' hrow'
              try with_reducible refine stI ?_
              try simp (maxSteps:=1000000)(dsimp:=false)(disch:=omega) only [go_sem, Φa, hP, h5_1, h5_5, h5_6, h5_7, hops, ia_at e1]
              refine hK15 _ _ ?_
              try clear hK15 K15
              refine SX.live [1, 5, 6] (fun T6 hT6 => ?_)
              simp only [forall_mem_cons', forall_mem_nil', go_sem, Φa, hP, h5_1, h5_5, h5_6, h5_7] at hT6
              obtain ⟨h6_1, h6_5, h6_6⟩ := hT6
              clear h5_1 h5_5 h5_6 h5_7 T5
              refine SX.region_d [some 18, some 19, some 6] rfl (fun ops hops => ?_)
              unfold Dsts at hops
              simp (maxSteps:=1000000)(dsimp:=false)(disch:=omega) only [go_sem, Φa, hP, h6_1, h6_5, h6_6, hops]
              repeat' ((first | refine And.intro (by omega) ?_ | fail); try (with_reducible refine stI ?_); try simp (maxSteps:=1000000)(dsimp:=false)(disch:=omega) only [go_sem, Φa, hP, h6_1, h6_5, h6_6, hops])
              refine hK11 (i + 1, v', s') _ (s' :: some (b0, .cells (f.cells (.slice A f.rows.length c)).toArray 41 (0, 0)) :: L) _ (by first | exact Less.refl _ | exact Less.drop _ _ | exact Less.drops (Less.drop _ _) | exact Less.drops (Less.drops (Less.drop _ _)) | exact Less.drops (Less.drops (Less.drops (Less.drop _ _))) | exact Less.drops (Less.drops (Less.drops (Less.drops (Less.drop _ _))))) ?_ ?_
              · try dsimp only
                refine ⟨?_, ?_, ?_, ?_, ?_⟩
                · simp (maxSteps:=1000000)(dsimp:=false)(disch:=omega) only [go_sem, Φa, hP, h6_1, h6_5, h6_6]
                  first | done | rfl | skip
                · simp (maxSteps:=1000000)(dsimp:=false)(disch:=omega) only [go_sem, Φa, hP, h6_1, h6_5, h6_6]
                  first | done | rfl | skip
                · simp (maxSteps:=1000000)(dsimp:=false)(disch:=omega) only [go_sem, Φa, hP, h6_1, h6_5, h6_6]
                · rfl
                · refine ⟨by omega, fun j hj => ?_, ?_⟩
                  · rcases Nat.lt_succ_iff_lt_or_eq.1 hj with h | rfl
                    · exact hin j h
                    · simpa using hc34
                  · rw [show (i + 1 + 3) / 4 = (i + 3) / 4 + 1 by omega, pageTo, show 4 * ((i + 3) / 4) = i by omega]; exact hrow'
              · (try dsimp only); omega
            · clear hX22 hY22 X22 Y22
              refine SX.skip ?_
              try simp only [andThen_normal, andThen_ret, andThen_exit, inBlk_normal, inBlk_ret, inBlk_exit, Nat.reduceEqDiff, if_true, if_false, ↓reduceIte]
              refine hK15 _ _ ?_
              try clear hK15 K15
              refine SX.region_d [some 18, some 19, some 6] rfl (fun ops hops => ?_)
              unfold Dsts at hops
              simp (maxSteps:=1000000)(dsimp:=false)(disch:=omega) only [go_sem, Φa, hP, h5_1, h5_5, h5_6, h5_7, hops]
              repeat' ((first | refine And.intro (by omega) ?_ | fail); try (with_reducible refine stI ?_); try simp (maxSteps:=1000000)(dsimp:=false)(disch:=omega) only [go_sem, Φa, hP, h5_1, h5_5, h5_6, h5_7, hops])
              refine hK11 (i + 1, vo, so) _ (so :: some (b0, .cells (f.cells (.slice A f.rows.length c)).toArray 41 (0, 0)) :: L) _ (by first | exact Less.refl _ | exact Less.drop _ _ | exact Less.drops (Less.drop _ _) | exact Less.drops (Less.drops (Less.drop _ _)) | exact Less.drops (Less.drops (Less.drops (Less.drop _ _))) | exact Less.drops (Less.drops (Less.drops (Less.drops (Less.drop _ _))))) ?_ ?_
              · try dsimp only
                refine ⟨?_, ?_, ?_, ?_, ?_⟩
                · simp (maxSteps:=1000000)(dsimp:=false)(disch:=omega) only [go_sem, Φa, hP, h5_1, h5_5, h5_6, h5_7]
                  first | done | rfl | skip
                · simp (maxSteps:=1000000)(dsimp:=false)(disch:=omega) only [go_sem, Φa, hP, h5_1, h5_5, h5_6, h5_7]
                  first | done | rfl | skip
                · simp (maxSteps:=1000000)(dsimp:=false)(disch:=omega) only [go_sem, Φa, hP, h5_1, h5_5, h5_6, h5_7]
                · rfl
                · refine ⟨by omega, fun j hj => ?_, ?_⟩
                  · rcases Nat.lt_succ_iff_lt_or_eq.1 hj with h | rfl
                    · exact hin j h
                    · simpa using hc34
                  · rw [show (i + 1 + 3) / 4 = (i + 3) / 4 by omega]; exact hrow
              · (try dsimp only); omega
        · clear hX14 hY14 X14 Y14
          refine SX.exit ?_
          try simp only [andThen_normal, andThen_ret, andThen_exit, inBlk_normal, inBlk_ret, inBlk_exit, Nat.reduceEqDiff, if_true, if_false, ↓reduceIte]
          refine hK9 _ _ ?_
          try clear hK9 K9
          refine SX.seq_k fun K23 hK23 => ?_
          refine SX.region_d [some 45, some 2, some 3] rfl (fun ops hops => ?_)
          unfold Dsts at hops
          simp (maxSteps:=1000000)(dsimp:=false)(disch:=omega) only [go_sem, Φa, hP, h4_5, h4_6, h4_1, hops]
          refine hK23 _ _ ?_
          try clear hK23 K23
          refine SX.ret ?_
          simp only [andThen_normal, andThen_ret, andThen_exit, inBlk_normal, inBlk_ret, inBlk_exit, Nat.reduceEqDiff, if_true, if_false, ↓reduceIte, retQ_ret]
          try simp only [res0, res1, res2, res3, stK_e, go_sem, Φa, hP, h4_5, h4_6, h4_1]
          obtain rfl : i = 128 := by omega
          exact ⟨_, _, less_mid1, rfl, PageR.some (pageP_yes hc15 hin) hrow⟩

end Go.Proofs.YtpakphgeichopaaDoor
set_option linter.unusedVariables false
set_option linter.unusedSimpArgs false
namespace Go.Proofs.YtpakphgeichopaaDoor
open Go.RowKit Go.SX
/-! A page whose rows are shown four times each; one byte turned. -/
theorem Sl.cut {α : Type} {sz : Nat} {R : (Addr → Value → Prop) → Addr → α → Prop} {C : Addr → Value → Prop} {A : Option Addr} {n c lo m : Nat} {xs : List α} (h : Sl sz R C (.slice A n c) xs) (hk : lo + m ≤ n) : Sl sz R C (.slice (cutA A sz c lo) m (c - lo)) ((xs.drop lo).take m) := Sl.take (Sl.drop h (by omega)) (by omega)
def ownL (l : List Int) : List Int := l.take 256 ++ List.replicate (256 - min l.length 256) 0
theorem ownL_len (l : List Int) : (ownL l).length = 256 := by
  unfold ownL
  rw [List.length_append, List.length_take, List.length_replicate]
  omega
theorem ownL_byte {l : List Int} (h : Byte l) : Byte (ownL l) := Byte.app (fun x hx => h x (List.mem_of_mem_take hx)) fun x hx => by rw [(List.mem_replicate.1 hx).2]; omega
theorem own_cells (l : List Int) : ints .u8 (l.take 256) ++ (ints .u8 (List.replicate 256 0)).drop (min l.length 256) = ints .u8 (ownL l) := by
  unfold ownL
  rw [ints_app]
  congr 1
  unfold ints
  rw [← List.map_drop, List.drop_replicate]
def seg8 (own : List Int) (i : Nat) : List Int := (own.drop (i / 4 * 8)).take 8
theorem seg8_len {own : List Int} (h : own.length = 256) {i : Nat} (hi : i < 128) : (seg8 own i).length = 8 := by
  unfold seg8
  rw [List.length_take, List.length_drop]
  omega
def gRows (own : List Int) (n : Nat) : List (List Int) := (List.range 128).map fun i => if i < n then seg8 own i else []
theorem gRows_len (own : List Int) (n : Nat) : (gRows own n).length = 128 := by unfold gRows; rw [List.length_map, List.length_range]
theorem gRows_getD {own : List Int} {n i : Nat} (hi : i < 128) : (gRows own n).getD i [] = if i < n then seg8 own i else [] := by
  unfold gRows
  rw [List.getD_eq_getElem?_getD, List.getElem?_map, List.getElem?_range hi]
  rfl
theorem gRows_zero (own : List Int) : gRows own 0 = List.replicate 128 [] := by
  refine List.ext_getElem? fun i => ?_
  unfold gRows
  rw [List.getElem?_map, List.getElem?_replicate]
  by_cases hi : i < 128
  · rw [List.getElem?_range hi, if_pos hi]; rfl
  · rw [List.getElem?_eq_none (by simp; omega), if_neg hi]; rfl
theorem getD_ext {l m : List (List Int)} (hl : l.length = m.length) (h : ∀ i, i < l.length → l.getD i [] = m.getD i []) : l = m := by
  refine List.ext_getElem? fun i => ?_
  by_cases hi : i < l.length
  · rw [getD_get (d := []) hi, getD_get (d := []) (by omega : i < m.length), h i hi]
  · rw [List.getElem?_eq_none (by omega), List.getElem?_eq_none (by omega)]
theorem gRows_set {own : List Int} {n : Nat} (hn : n < 128) : (gRows own n).set n (seg8 own n) = gRows own (n + 1) := by
  refine getD_ext (by rw [List.length_set, gRows_len, gRows_len]) fun i hi => ?_
  rw [List.length_set, gRows_len] at hi
  rw [set_getD, gRows_getD hi, gRows_getD hi, gRows_len]
  by_cases h : n = i
  · rw [if_pos ⟨h, by omega⟩, if_pos (by omega), h]
  · rw [if_neg (fun hh => h hh.1)]
    by_cases h2 : i < n
    · rw [if_pos h2, if_pos (by omega)]
    · rw [if_neg h2, if_neg (by omega)]
theorem cnt_full : ∀ {l : List (List Int)}, (∀ r ∈ l, r.length = 8) → cnt l = 8 * l.length
  | [], _ => rfl
  | r :: l, h => by
    have h1 := h r (List.mem_cons_self ..)
    have h2 := cnt_full (l := l) fun r hr => h r (List.mem_cons_of_mem _ hr)
    rw [cnt, List.length_cons]
    omega
theorem may_full {rows : List (List Int)} (hn : rows.length = 128) (h8 : ∀ i, i < 128 → (rows.getD i []).length = 8) : mayF ⟨0, rows, false⟩ = true ∧ cnt rows = 1024 := by
  have hc := cnt_full (l := rows) fun r hr => by
    obtain ⟨j, hj⟩ := List.mem_iff_getElem?.1 hr
    have hjl := (List.getElem?_eq_some_iff.1 hj).1
    have := h8 j (by omega)
    rwa [List.getD_eq_getElem?_getD, hj] at this
  have hc2 : cnt rows = 1024 := by omega
  refine ⟨?_, hc2⟩
  unfold mayF
  dsimp only
  rw [hc2, hn]
  simp only [Int.le_refl, decide_true, Bool.true_and]
  rw [decide_eq_true (show ∀ j, j < 128 → (rows.getD j []).length ≤ 8 from fun j hj => by rw [h8 j hj]; exact Nat.le_refl _)]
  rfl
theorem pageTo_own {own : List Int} (h : own.length = 256) : ∀ k, k ≤ 32 → pageTo (gRows own 128) k = own.take (8 * k)
  | 0, _ => rfl
  | k + 1, hk => by
    rw [pageTo, pageTo_own h k (by omega), gRows_getD (by omega), if_pos (by omega), seg8, show 4 * k / 4 * 8 = 8 * k by omega, show 8 * (k + 1) = 8 * k + 8 by omega, List.take_add]
theorem page_same {own : List Int} (h : own.length = 256) : pageP ⟨0, gRows own 128, false⟩ = some own := by
  have hm := may_full (rows := gRows own 128) (gRows_len _ _) fun i hi => by rw [gRows_getD hi, if_pos hi]; exact seg8_len h hi
  rw [pageP_yes (by rw [hm.1]; rfl) fun i hi => by rw [gRows_getD hi, if_pos hi, gRows_getD (by omega), if_pos (by omega), seg8, seg8, show i / 4 * 4 / 4 * 8 = i / 4 * 8 by omega]]
  show some (pageTo (gRows own 128) 32) = _
  rw [pageTo_own h 32 (Nat.le_refl _), List.take_of_length_le (by omega)]
theorem page_off {own : List Int} (h : own.length = 256) {q r : Nat} (hq : q < 128) (hr : r < 8) {y : Int} (hy : y ≠ (seg8 own q).getD r 0) : pageP ⟨0, (gRows own 128).set q ((seg8 own q).set r y), false⟩ = none := by
  have hne : (seg8 own q).set r y ≠ seg8 own q := fun he => by
    have : ((seg8 own q).set r y).getD r 0 = (seg8 own q).getD r 0 := by rw [he]
    rw [set_getD, if_pos ⟨rfl, by rw [seg8_len h hq]; exact hr⟩] at this
    exact hy this
  have hg : ∀ i, i < 128 → ((gRows own 128).set q ((seg8 own q).set r y)).getD i [] = if q = i then (seg8 own q).set r y else seg8 own i := fun i hi => by
    rw [set_getD, gRows_getD hi, if_pos hi, gRows_len]
    by_cases h1 : q = i
    · rw [if_pos ⟨h1, hq⟩, if_pos h1]
    · rw [if_neg (fun hh => h1 hh.1), if_neg h1]
  by_cases h4 : q % 4 = 0
  · refine pageP_off (i := q + 1) (by omega) ?_
    show ¬ List.getD _ (q + 1) [] = List.getD _ ((q + 1) / 4 * 4) []
    rw [hg _ (by omega), hg _ (by omega), if_neg (by omega), if_pos (by omega), seg8, show (q + 1) / 4 * 8 = q / 4 * 8 by omega]
    exact fun he => hne he.symm
  · refine pageP_off (i := q) hq ?_
    show ¬ List.getD _ q [] = List.getD _ (q / 4 * 4) []
    rw [hg _ hq, hg _ (by omega), if_pos rfl, if_neg (by omega), seg8, seg8, show q / 4 * 4 / 4 * 8 = q / 4 * 8 by omega]
    exact fun he => hne he
theorem xor_ne {a b : Int} (ha : 0 ≤ a ∧ a ≤ 255) (hb : 0 ≤ b ∧ b ≤ 255) (h : b ≠ 0) : bits .xor .u8 a b ≠ a := by
  rw [u8_xor a b ha.1 (by omega) hb.1 (by omega)]
  intro he
  have h1 : a.toNat ^^^ b.toNat = a.toNat := by omega
  have h2 : b.toNat = 0 := by
    have := congrArg (a.toNat ^^^ ·) h1
    simpa [← Nat.xor_assoc] using this
  omega
theorem xor_zero' {a : Int} (ha : 0 ≤ a ∧ a ≤ 255) : bits .xor .u8 a 0 = a := by
  rw [u8_xor a 0 ha.1 (by omega) (by omega) (by omega)]
  simp
  omega
theorem xor_byte {a b : Int} (ha : 0 ≤ a ∧ a ≤ 255) (hb : 0 ≤ b ∧ b ≤ 255) : 0 ≤ bits .xor .u8 a b ∧ bits .xor .u8 a b ≤ 255 := by
  rw [u8_xor a b ha.1 (by omega) hb.1 (by omega)]
  have := Nat.xor_lt_two_pow (show a.toNat < 2 ^ 8 by omega) (show b.toNat < 2 ^ 8 by omega)
  omega
theorem set_self {l : List Int} {r : Nat} (h : r < l.length) : l.set r (l.getD r 0) = l := by
  refine List.ext_getElem? fun i => ?_
  rw [List.getElem?_set]
  split
  · rename_i he
    subst he
    first | exact (getD_get (d := 0) h).symm | (rw [if_pos h]; exact (getD_get (d := 0) h).symm)
  · rfl
theorem gRows_turn_zero {own : List Int} (h : own.length = 256) {q r : Nat} (hq : q < 128) (hr : r < 8) : (gRows own 128).set q ((seg8 own q).set r ((seg8 own q).getD r 0)) = gRows own 128 := by
  rw [set_self (by rw [seg8_len h hq]; exact hr)]
  refine getD_ext (by rw [List.length_set]) fun i hi => ?_
  rw [List.length_set, gRows_len] at hi
  rw [set_getD, gRows_getD hi, if_pos hi, gRows_len]
  split
  · rename_i he; rw [he.1]
  · rfl
/-! memory -/
theorem less_seg0 {p : Slot} {g : Nat} {R : Hp} : Less (p :: some (g, .cells (List.replicate 128 (Value.slice none 0 0)).toArray 50 (0, 0)) :: R) (p :: ((d0 g).seg ++ R)) := by
  refine (Less.nones 128 _).trans (Less.perm ?_)
  show (List.replicate 128 none ++ (p :: some (g, .cells (List.replicate 128 (Value.slice none 0 0)).toArray 50 (0, 0)) :: R) : Hp).Perm (p :: some (g, .cells (List.replicate 128 (Value.slice none 0 0)).toArray 50 (0, 0)) :: (List.replicate 128 none ++ R))
  exact List.perm_middle.trans (List.Perm.cons _ List.perm_middle)
theorem get2 {a : Slot} {d : Fd} {R : Hp} {k : Nat} (h : k < d.ss.length) : (a :: (d.seg ++ R))[k + 2]? = some (d.ss.getD k none) := by
  show (d.ss ++ R)[k]? = _
  rw [List.getElem?_append_left h, getD_get (d := Option.none) h]
theorem lessG13 {a : Slot} {d : Fd} {R : Hp} : Less (a :: (d.seg ++ R)) (a :: some (d.g, .cells d.vals.toArray 50 (0, 0)) :: R) := Less.sublist (.cons_cons _ (.cons_cons _ (List.sublist_append_right _ _)))
theorem less13 {a s' : Slot} {d : Fd} {R : Hp} {k : Nat} {V : List Value} (h : k < d.ss.length) : Less (a :: ((d.seg ++ R).set (k + 1) s').set 0 (some (d.g, .cells V.toArray 50 (0, 0)))) (a :: ((Fd.mk d.g V (d.ss.set k s')).seg ++ R)) := by
  rw [seg_set h]
  exact Less.refl _
theorem FdOk.put {rows : List (List Int)} {d : Fd} (h : FdOk rows d) {k : Nat} (hk : k < 128) {s : Slot} {r : List Int} (hr : RowI .u8 5 (d.vals.getD k undef) r s) : FdOk (rows.set k r) ⟨d.g, d.vals, d.ss.set k s⟩ := by
  have := h.set hk hr
  have e : d.vals.set k (d.vals.getD k undef) = d.vals := by
    refine List.ext_getElem? fun i => ?_
    rw [List.getElem?_set]
    split
    · rename_i he
      subst he
      have hl := h.nv
      rw [if_pos (by omega), getD_get (d := undef) (by omega)]
    · rfl
  rwa [e] at this
end Go.Proofs.YtpakphgeichopaaDoor
set_option linter.unusedVariables false
set_option linter.unusedSimpArgs false
namespace Go.Proofs.YtpakphgeichopaaDoor
open Go.RowKit Go.SX Go.Proofs
open Go.SX renaming ia_someH → Φa
-- LAW
set_option maxHeartbeats 1000000 in
set_option maxRecDepth 100000 in
theorem FramePages_spec {Γ : Ctx} (hP : Γ.P = Tryd.prog) {L : Hp} (S : SH Γ) {v pv : Value} {f : Fm} {xs : List Int} {ta tb tm : Int} (hr : SlR (Cell Γ []) v f.rows) (hx : SlI .u8 (Cell Γ []) pv xs) (hxb : Byte xs) (htb : 0 ≤ tb ∧ tb ≤ 255) (hrl : f.rows.length ≤ 9223372036854775807) (hby : ∀ i, i < f.rows.length → ∀ j, j < (f.rows.getD i []).length → 0 ≤ (f.rows.getD i []).getD j 0 ∧ (f.rows.getD i []).getD j 0 ≤ 255) :
    SCall Γ 8 #[(.agg (f.cells v).toArray), pv, (.agg #[.int .i64 ta, .int .u8 tb, .int .i64 tm])] L (fun v L' => v = .bool true ∧ L' = L) := by
  obtain ⟨A, c, rfl, hc⟩ := Sl.shape hr
  obtain ⟨Ax, cx, rfl, hcx⟩ := Sl.shape hx
  refine SCall.enter (n := 125) (res1 6) (hP ▸ Tryd.func8) rfl rfl (by simp) (res1_ok rfl) ?_
  refine SX.seq_k fun K1 hK1 => ?_
  refine SX.region_d [some 3, some 5, some 6] rfl (fun ops hops => ?_)
  unfold Dsts at hops
  simp (maxSteps:=1000000)(dsimp:=false)(disch:=omega) only [go_sem, Φa, hP, hops]
  intro b0
  try with_reducible refine stI ?_
  try simp (maxSteps:=1000000)(dsimp:=false)(disch:=omega) only [go_sem, Φa, hP, hops]
  intro bT
  try with_reducible refine stI ?_
  try simp (maxSteps:=1000000)(dsimp:=false)(disch:=omega) only [go_sem, Φa, hP, hops]
  refine hK1 _ _ ?_
  try clear hK1 K1
  refine SX.seq_k fun K2 hK2 => ?_
  refine SX.seq_k fun K3 hK3 => ?_
  refine SX.region_xd [some 15, some 16, some 17, some 18, some 19, some 20, some 21] rfl (fun ops hops => ?_)
  unfold Dsts at hops
  refine RX.live [1, 3, 5] (fun T1 hT1 => ?_)
  simp only [forall_mem_cons', forall_mem_nil', go_sem, Φa, hP] at hT1
  obtain ⟨h1_1, h1_3, h1_5⟩ := hT1
  refine RX.join 7 (fun (ss : Unit) T L' => T 21 = .bool (vastF f || decide (2147483647 < xs.length)) ∧ T 1 = T1 1 ∧ T 3 = T1 3 ∧ T 5 = T1 5 ∧ L' = some (bT, .cells [.int .i64 ta, .int .u8 tb, .int .i64 tm].toArray 46 (0, 0)) :: some (b0, .cells (f.cells (.slice A f.rows.length c)).toArray 41 (0, 0)) :: L ∧ (True)) (fun K4 hK4 => ?_) ?_
  · simp only [h1_1, h1_3, h1_5] at hK4
    simp (maxSteps:=1000000)(dsimp:=false)(disch:=omega) only [go_sem, Φa, hP, h1_1, h1_3, h1_5, hops]
    repeat' (first | refine iteB (fun hg => ?_) (fun hg => ?_) | refine iteI (fun hg => ?_) (fun hg => ?_) | ((first | refine ⟨_, Cell.at 1 rfl (show (Fm.cells _ _)[0]? = _ from rfl), _, Cell.at 1 rfl (show (Fm.cells _ _)[1]? = _ from rfl), _, Cell.at 1 rfl (show (Fm.cells _ _)[2]? = _ from rfl), ?_⟩ | (refine SCall.mono (vast_spec (f := f) hP (SlR.mono (fun a v h => Cell.cons _ (Cell.cons _ (Cell.any h))) hr) hrl) ?_; rintro v_ L_ ⟨hv_, hL_⟩; rw [hv_, hL_]; clear hv_ hL_ v_ L_) | refine And.intro (by omega) ?_ | refine ⟨_, Cell.at 0 rfl rfl, _, Cell.at 0 rfl rfl, _, Cell.at 0 rfl rfl, ?_⟩ | refine ⟨_, Cell.at 1 rfl rfl, _, Cell.at 1 rfl rfl, _, Cell.at 1 rfl rfl, ?_⟩ | refine ⟨_, Cell.at 0 rfl rfl, ?_⟩ | refine ⟨_, Cell.at 1 rfl rfl, ?_⟩ | fail); try (with_reducible refine stI ?_); try simp (maxSteps:=1000000)(dsimp:=false)(disch:=omega) only [go_sem, Φa, hP, h1_1, h1_3, h1_5, hops]) | fail)
    all_goals
      refine hK4 () _ (some (bT, .cells [.int .i64 ta, .int .u8 tb, .int .i64 tm].toArray 46 (0, 0)) :: some (b0, .cells (f.cells (.slice A f.rows.length c)).toArray 41 (0, 0)) :: L) _ (by first | exact Less.refl _ | exact Less.drop _ _ | exact Less.drops (Less.drop _ _) | exact Less.drops (Less.drops (Less.drop _ _)) | exact Less.drops (Less.drops (Less.drops (Less.drop _ _))) | exact Less.drops (Less.drops (Less.drops (Less.drops (Less.drop _ _))))) ?_
      try dsimp only
      refine ⟨?_, ?_, ?_, ?_, ?_, ?_⟩
      · simp (maxSteps:=1000000)(dsimp:=false)(disch:=omega) only [go_sem, Φa, hP, h1_1, h1_3, h1_5]
        first | done | rfl | (refine congrArg Value.bool ?_; simp_all; first | done | omega)
      · simp (maxSteps:=1000000)(dsimp:=false)(disch:=omega) only [go_sem, Φa, hP, h1_1, h1_3, h1_5]
      · simp (maxSteps:=1000000)(dsimp:=false)(disch:=omega) only [go_sem, Φa, hP, h1_1, h1_3, h1_5]
      · simp (maxSteps:=1000000)(dsimp:=false)(disch:=omega) only [go_sem, Φa, hP, h1_1, h1_3, h1_5]
      · rfl
      · trivial
  · intro ss T2 L2 hI
    simp only [h1_1, h1_3, h1_5] at hI 
    obtain ⟨h2_21, h2_1, h2_3, h2_5, hL2, hinv⟩ := hI
    replace hL2 := hL2.symm
    subst hL2
    clear h1_1 h1_3 h1_5 T1
    refine RX.done ?_
    simp (maxSteps:=1000000)(dsimp:=false)(disch:=omega) only [go_sem, Φa, hP, h2_21, h2_1, h2_3, h2_5, hops]
    refine hK3 _ _ ?_
    try clear hK3 K3
    refine SX.cond_k fun X5 Y5 hX5 hY5 => ?_
    simp (maxSteps:=1000000)(dsimp:=false)(disch:=omega) only [go_sem, Φa, hP, h2_21, h2_1, h2_3, h2_5, condVC]
    refine ⟨fun hc21 => hX5 ?_, fun hc21 => hY5 ?_⟩
    · clear hX5 hY5 X5 Y5
      refine SX.seq_k fun K6 hK6 => ?_
      refine SX.region_d [some 6] rfl (fun ops hops => ?_)
      unfold Dsts at hops
      simp (maxSteps:=1000000)(dsimp:=false)(disch:=omega) only [go_sem, Φa, hP, h2_21, h2_1, h2_3, h2_5, hops]
      refine hK6 _ _ ?_
      try clear hK6 K6
      refine SX.ret ?_
      simp only [andThen_normal, andThen_ret, andThen_exit, inBlk_normal, inBlk_ret, inBlk_exit, Nat.reduceEqDiff, if_true, if_false, ↓reduceIte, retQ_ret]
      try simp only [res0, res1, res2, res3, stK_e, go_sem, Φa, hP, h2_21, h2_1, h2_3, h2_5]
      exact ⟨_, _, Less.drops (Less.drop _ _), rfl, rfl, rfl⟩
    · clear hX5 hY5 X5 Y5
      refine SX.skip ?_
      try simp only [andThen_normal, andThen_ret, andThen_exit, inBlk_normal, inBlk_ret, inBlk_exit, Nat.reduceEqDiff, if_true, if_false, ↓reduceIte]
      refine hK2 _ _ ?_
      try clear hK2 K2
      refine SX.seq_k fun K7 hK7 => ?_
      have hno := hc21
      rw [Bool.or_eq_false_iff, decide_eq_false_iff_not] at hno
      obtain ⟨hv1, hv2⟩ := vast_no hno.1
      have hpb : Byte ((pageP f).getD []) := by
        unfold pageP
        split
        · rename_i hh
          have hn : f.rows.length = 128 := by simp only [Bool.and_eq_true] at hh; exact (of_mayF hh.1.1).2.1
          exact pageTo_byte (fun i hi => row_byte hby (by omega)) 32 (Nat.le_refl _)
        · exact fun x hx => by cases hx
      refine SX.region_d [some 23, some 24, some 22, some 25, some 26, some 7, some 8] rfl (fun ops hops => ?_)
      unfold Dsts at hops
      simp (maxSteps:=1000000)(dsimp:=false)(disch:=omega) only [go_sem, Φa, hP, h2_21, h2_1, h2_3, h2_5, hops]
      refine ⟨_, Cell.at 1 rfl (show (Fm.cells _ _)[0]? = _ from rfl), _, Cell.at 1 rfl (show (Fm.cells _ _)[1]? = _ from rfl), _, Cell.at 1 rfl (show (Fm.cells _ _)[2]? = _ from rfl), ?_⟩
      try with_reducible refine stI ?_
      try simp (maxSteps:=1000000)(dsimp:=false)(disch:=omega) only [go_sem, Φa, hP, h2_21, h2_1, h2_3, h2_5, hops]
      refine SCall.mono (Page_spec (f := f) hP (SlR.mono (fun a v h => Cell.cons _ (Cell.cons _ (Cell.any h))) hr) (by omega) (by omega) hby) ?_
      rintro v_ L_ ⟨vo1, so1, rfl, rfl, hrow1⟩
      obtain ⟨A1, c1, rfl, hcc1, _⟩ := Row.form hrow1
      try with_reducible refine stI ?_
      try simp (maxSteps:=1000000)(dsimp:=false)(disch:=omega) only [go_sem, Φa, hP, h2_21, h2_1, h2_3, h2_5, hops]
      refine hK7 _ _ ?_
      try clear hK7 K7
      refine SX.seq_k fun K8 hK8 => ?_
      refine SX.region_d [some 28, some 29, some 27, some 30, some 31, some 9, some 10] rfl (fun ops hops => ?_)
      unfold Dsts at hops
      simp (maxSteps:=1000000)(dsimp:=false)(disch:=omega) only [go_sem, Φa, hP, h2_21, h2_1, h2_3, h2_5, hops]
      refine ⟨_, Cell.at 2 rfl (show (Fm.cells _ _)[0]? = _ from rfl), _, Cell.at 2 rfl (show (Fm.cells _ _)[1]? = _ from rfl), _, Cell.at 2 rfl (show (Fm.cells _ _)[2]? = _ from rfl), ?_⟩
      try with_reducible refine stI ?_
      try simp (maxSteps:=1000000)(dsimp:=false)(disch:=omega) only [go_sem, Φa, hP, h2_21, h2_1, h2_3, h2_5, hops]
      refine SCall.mono (refPage_spec (f := f) hP (SlR.mono (fun a v h => Cell.cons _ h) (SlR.mono (fun a v h => Cell.cons _ (Cell.cons _ (Cell.any h))) hr)) (by omega) (by omega) hby) ?_
      rintro v_ L_ ⟨vo2, so2, rfl, rfl, hrow2⟩
      obtain ⟨A2, c2, rfl, hcc2, _⟩ := Row.form hrow2
      try with_reducible refine stI ?_
      try simp (maxSteps:=1000000)(dsimp:=false)(disch:=omega) only [go_sem, Φa, hP, h2_21, h2_1, h2_3, h2_5, hops]
      refine hK8 _ _ ?_
      try clear hK8 K8
      refine SX.live [1, 5, 7, 8, 9, 10] (fun T3 hT3 => ?_)
      simp only [forall_mem_cons', forall_mem_nil', go_sem, Φa, hP, h2_21, h2_1, h2_3, h2_5] at hT3
      obtain ⟨h3_1, h3_5, h3_7, h3_8, h3_9, h3_10⟩ := hT3
      clear h2_21 h2_1 h2_3 h2_5 T2
      refine SX.seq_k fun K9 hK9 => ?_
      refine SX.seq_k fun K10 hK10 => ?_
      refine SX.region_xd [some 32, some 33, some 34, some 35, some 36, some 37, some 38, some 39, some 40, some 41] rfl (fun ops hops => ?_)
      unfold Dsts at hops
      refine RX.live [1, 5, 7, 8, 9, 10] (fun T4 hT4 => ?_)
      simp only [forall_mem_cons', forall_mem_nil', go_sem, Φa, hP, h3_1, h3_5, h3_7, h3_8, h3_9, h3_10] at hT4
      obtain ⟨h4_1, h4_5, h4_7, h4_8, h4_9, h4_10⟩ := hT4
      clear h3_1 h3_5 h3_7 h3_8 h3_9 h3_10 T3
      refine RX.join 10 (fun (ss : Unit) T L' => T 41 = .bool (false) ∧ T 1 = T4 1 ∧ T 5 = T4 5 ∧ L' = so2 :: so1 :: some (bT, .cells [.int .i64 ta, .int .u8 tb, .int .i64 tm].toArray 46 (0, 0)) :: some (b0, .cells (f.cells (.slice A f.rows.length c)).toArray 41 (0, 0)) :: L ∧ (True)) (fun K11 hK11 => ?_) ?_
      · simp only [h4_1, h4_5] at hK11
        simp (maxSteps:=1000000)(dsimp:=false)(disch:=omega) only [go_sem, Φa, hP, h4_1, h4_5, h4_7, h4_8, h4_9, h4_10, hops]
        repeat' (first | refine iteB (fun hg => ?_) (fun hg => ?_) | refine iteI (fun hg => ?_) (fun hg => ?_) | ((first | ((with_reducible show convVCH _ _ _ (.slice A1 _ _) _ _ _ _ _ _); refine conv_row (hP ▸ Tryd.underlying50) (hP ▸ Tryd.underlying9) (hP ▸ Tryd.underlying5) (RowI.sl (i := 1) hrow1 (by rfl)) hpb ?_) | ((with_reducible show convVCH _ _ _ (.slice A2 _ _) _ _ _ _ _ _); refine conv_row (hP ▸ Tryd.underlying50) (hP ▸ Tryd.underlying9) (hP ▸ Tryd.underlying5) (RowI.sl (i := 0) hrow2 (by rfl)) hpb ?_) | refine And.intro (by omega) ?_ | refine ⟨_, Cell.at 0 rfl rfl, ?_⟩ | refine ⟨_, Cell.at 1 rfl rfl, ?_⟩ | refine ⟨_, Cell.at 2 rfl rfl, ?_⟩ | refine ⟨_, Cell.at 3 rfl rfl, ?_⟩ | fail); try (with_reducible refine stI ?_); try simp (maxSteps:=1000000)(dsimp:=false)(disch:=omega) only [go_sem, Φa, hP, h4_1, h4_5, h4_7, h4_8, h4_9, h4_10, hops]) | simp (maxSteps:=1000000)(dsimp:=false)(disch:=omega) only [go_sem, Φa, hP, h4_1, h4_5, h4_7, h4_8, h4_9, h4_10, hops] | fail)
        all_goals
          refine hK11 () _ (so2 :: so1 :: some (bT, .cells [.int .i64 ta, .int .u8 tb, .int .i64 tm].toArray 46 (0, 0)) :: some (b0, .cells (f.cells (.slice A f.rows.length c)).toArray 41 (0, 0)) :: L) _ (by first | exact Less.refl _ | exact Less.drop _ _ | exact Less.drops (Less.drop _ _) | exact Less.drops (Less.drops (Less.drop _ _)) | exact Less.drops (Less.drops (Less.drops (Less.drop _ _))) | exact Less.drops (Less.drops (Less.drops (Less.drops (Less.drop _ _))))) ?_
          try dsimp only
          refine ⟨?_, ?_, ?_, ?_, ?_⟩
          · simp (maxSteps:=1000000)(dsimp:=false)(disch:=omega) only [go_sem, Φa, hP, h4_1, h4_5, h4_7, h4_8, h4_9, h4_10]
            first | done | rfl | (refine congrArg Value.bool ?_; simp_all; done)
          · simp (maxSteps:=1000000)(dsimp:=false)(disch:=omega) only [go_sem, Φa, hP, h4_1, h4_5, h4_7, h4_8, h4_9, h4_10]
          · simp (maxSteps:=1000000)(dsimp:=false)(disch:=omega) only [go_sem, Φa, hP, h4_1, h4_5, h4_7, h4_8, h4_9, h4_10]
          · rfl
          · trivial
      · intro ss T5 L5 hI
        simp only [h4_1, h4_5] at hI 
        obtain ⟨h5_41, h5_1, h5_5, hL5, hinv⟩ := hI
        replace hL5 := hL5.symm
        subst hL5
        clear h4_1 h4_5 h4_7 h4_8 h4_9 h4_10 T4
        refine RX.done ?_
        simp (maxSteps:=1000000)(dsimp:=false)(disch:=omega) only [go_sem, Φa, hP, h5_41, h5_1, h5_5, hops]
        refine hK10 _ _ ?_
        try clear hK10 K10
        refine SX.cond_k fun X12 Y12 hX12 hY12 => ?_
        simp (maxSteps:=1000000)(dsimp:=false)(disch:=omega) only [go_sem, Φa, hP, h5_41, h5_1, h5_5, condVC]
        refine hY12 ?_
        clear hX12 hY12 X12 Y12
        refine SX.skip ?_
        try simp only [andThen_normal, andThen_ret, andThen_exit, inBlk_normal, inBlk_ret, inBlk_exit, Nat.reduceEqDiff, if_true, if_false, ↓reduceIte]
        refine hK9 _ _ ?_
        try clear hK9 K9
        refine SX.seq_k fun K13 hK13 => ?_
        refine SX.less (Less.drops (Less.drop _ _)) ?_
        refine SX.region_d [some 42, some 11] rfl (fun ops hops => ?_)
        unfold Dsts at hops
        simp (maxSteps:=1000000)(dsimp:=false)(disch:=omega) only [go_sem, Φa, hP, h5_41, h5_1, h5_5, hops]
        intro gO
        try with_reducible refine stI ?_
        try simp (maxSteps:=1000000)(dsimp:=false)(disch:=omega) only [go_sem, Φa, hP, h5_41, h5_1, h5_5, hops]
        rw [zerosV_ints]
        try with_reducible refine stI ?_
        try simp (maxSteps:=1000000)(dsimp:=false)(disch:=omega) only [go_sem, Φa, hP, h5_41, h5_1, h5_5, hops]
        refine hK13 _ _ ?_
        try clear hK13 K13
        refine SX.seq_k fun K14 hK14 => ?_
        refine SX.region_d [some 43, some 44, some 45] rfl (fun ops hops => ?_)
        unfold Dsts at hops
        simp (maxSteps:=1000000)(dsimp:=false)(disch:=omega) only [go_sem, Φa, hP, h5_41, h5_1, h5_5, hops]
        refine YCopy.ints (i := 0) (hP ▸ T.elS_50) (SlI.any hx) rfl (by simp [ints_length]; omega) (.inr (Nat.zero_le _)) ?_
        rw [own_cells]
        try with_reducible refine stI ?_
        try simp (maxSteps:=1000000)(dsimp:=false)(disch:=omega) only [go_sem, Φa, hP, h5_41, h5_1, h5_5, hops]
        refine hK14 _ _ ?_
        try clear hK14 K14
        refine SX.seq_k fun K15 hK15 => ?_
        refine SX.region_d [some 46, some 47, some 12, none] rfl (fun ops hops => ?_)
        unfold Dsts at hops
        simp (maxSteps:=1000000)(dsimp:=false)(disch:=omega) only [go_sem, Φa, hP, h5_41, h5_1, h5_5, hops]
        intro gR
        try with_reducible refine stI ?_
        try simp (maxSteps:=1000000)(dsimp:=false)(disch:=omega) only [go_sem, Φa, hP, h5_41, h5_1, h5_5, hops]
        rw [zerosV_one]
        try with_reducible refine stI ?_
        try simp (maxSteps:=1000000)(dsimp:=false)(disch:=omega) only [go_sem, Φa, hP, h5_41, h5_1, h5_5, hops]
        intro gF
        try with_reducible refine stI ?_
        try simp (maxSteps:=1000000)(dsimp:=false)(disch:=omega) only [go_sem, Φa, hP, h5_41, h5_1, h5_5, hops]
        refine ⟨0, _, _, _, rfl, (by simp), .inr (by decide), ?_⟩
        try with_reducible refine stI ?_
        try simp (maxSteps:=1000000)(dsimp:=false)(disch:=omega) only [go_sem, Φa, hP, h5_41, h5_1, h5_5, hops]
        refine hK15 _ _ ?_
        try clear hK15 K15
        refine SX.seq_k fun K16 hK16 => ?_
        refine SX.seq_k fun K17 hK17 => ?_
        refine SX.less less_seg0 ?_
        refine SX.region_d [some 13] rfl (fun ops hops => ?_)
        unfold Dsts at hops
        simp (maxSteps:=1000000)(dsimp:=false)(disch:=omega) only [go_sem, Φa, hP, h5_41, h5_1, h5_5, hops]
        refine hK17 _ _ ?_
        try clear hK17 K17
        refine SX.live [5, 11, 12, 13] (fun T6 hT6 => ?_)
        simp only [forall_mem_cons', forall_mem_nil', go_sem, Φa, hP, h5_41, h5_1, h5_5] at hT6
        obtain ⟨h6_5, h6_11, h6_12, h6_13⟩ := hT6
        clear h5_41 h5_1 h5_5 T5
        refine SX.block ?_
        refine SX.live [5, 11, 12, 13] (fun T7 hT7 => ?_)
        simp only [forall_mem_cons', forall_mem_nil', go_sem, Φa, hP, h6_5, h6_11, h6_12, h6_13] at hT7
        obtain ⟨h7_5, h7_11, h7_12, h7_13⟩ := hT7
        clear h6_5 h6_11 h6_12 h6_13 T6
        refine SX.loop_k (fun (ss : (Nat) × (Fd)) T L' => (fun (i : Nat) (d : Fd) => T 13 = .int .i64 (i : Int) ∧ T 5 = T7 5 ∧ T 11 = T7 11 ∧ T 12 = T7 12 ∧ L' = some (gF, .cells [.int .i64 0, .slice (some ⟨d.g, 0, none⟩) 128 128, .bool false].toArray 41 (0, 0)) :: (d.seg ++ (some (gO, .cells (ints .u8 (ownL xs)).toArray 5 (0, 0)) :: some (bT, .cells [.int .i64 ta, .int .u8 tb, .int .i64 tm].toArray 46 (0, 0)) :: some (b0, .cells (f.cells (.slice A f.rows.length c)).toArray 41 (0, 0)) :: L)) ∧ (i ≤ 128 ∧ FdOk (gRows (ownL xs) i) d)) (ss.1) (ss.2)) (fun (ss : (Nat) × (Fd)) => (fun (i : Nat) (d : Fd) => 128 - i) (ss.1) (ss.2)) (0, d0 gR) ?_ ?_
        · try dsimp only
          refine ⟨?_, ?_, ?_, ?_, ?_, ?_⟩
          · first | exact h7_13 | (rw [h7_13]; rfl) | (rw [h7_13]; simp; done)
          · rfl
          · rfl
          · rfl
          · rfl
          · exact ⟨Nat.zero_le _, by rw [gRows_zero]; exact FdOk.start gR⟩
        · intro ss T8 L8 hI K18 hK18
          obtain ⟨i, d⟩ := ss
          try dsimp only at hI hK18
          simp only [h7_5, h7_11, h7_12] at hI hK18
          obtain ⟨h8_13, h8_5, h8_11, h8_12, hL8, ⟨hi, hd⟩⟩ := hI
          replace hL8 := hL8.symm
          subst hL8
          clear h7_5 h7_11 h7_12 h7_13 T7
          refine SX.seq_k fun K19 hK19 => ?_
          refine SX.seq_k fun K20 hK20 => ?_
          refine SX.region_d [some 48, some 49] rfl (fun ops hops => ?_)
          unfold Dsts at hops
          simp (maxSteps:=1000000)(dsimp:=false)(disch:=omega) only [go_sem, Φa, hP, h8_13, h8_5, h8_11, h8_12, hops]
          repeat' ((first | refine And.intro (by omega) ?_ | fail); try (with_reducible refine stI ?_); try simp (maxSteps:=1000000)(dsimp:=false)(disch:=omega) only [go_sem, Φa, hP, h8_13, h8_5, h8_11, h8_12, hops])
          refine hK20 _ _ ?_
          try clear hK20 K20
          refine SX.cond_k fun X21 Y21 hX21 hY21 => ?_
          simp (maxSteps:=1000000)(dsimp:=false)(disch:=omega) only [go_sem, Φa, hP, h8_13, h8_5, h8_11, h8_12, condVC]
          refine ⟨fun hc49 => hX21 ?_, fun hc49 => hY21 ?_⟩
          · clear hX21 hY21 X21 Y21
            refine SX.skip ?_
            try simp only [andThen_normal, andThen_ret, andThen_exit, inBlk_normal, inBlk_ret, inBlk_exit, Nat.reduceEqDiff, if_true, if_false, ↓reduceIte]
            refine hK19 _ _ ?_
            try clear hK19 K19
            refine SX.seq_k fun K22 hK22 => ?_
            refine SX.block ?_
            have hil : i < 128 := by omega
            have hol := ownL_len xs
            have hlj : i < d.ss.length := by have := hd.ns; omega
            have hv := getD_get (d := undef) (by have := hd.nv; omega : i < d.vals.length)
            have hrw := hd.row i hil
            rw [gRows_getD hil, if_neg (Nat.lt_irrefl _)] at hrw
            have htd : (i : Int).tdiv 4 = ((i / 4 : Nat) : Int) := by rw [Int.tdiv_eq_ediv_of_nonneg (Int.natCast_nonneg _)]; omega
            have hlo : ((i / 4 : Nat) : Int) * 8 = ((i / 4 * 8 : Nat) : Int) := by omega
            have hhi : ((i / 4 * 8 : Nat) : Int) + 8 = ((i / 4 * 8 + 8 : Nat) : Int) := by omega
            have hsub : i / 4 * 8 + 8 - i / 4 * 8 = 8 := by omega
            have hs8 := seg8_len hol hil
            have hcut : SlI .u8 (Cell Γ (some (gF, .cells [.int .i64 0, .slice (some ⟨d.g, 0, none⟩) 128 128, .bool false].toArray 41 (0, 0)) :: (d.seg ++ (some (gO, .cells (ints .u8 (ownL xs)).toArray 5 (0, 0)) :: some (bT, .cells [.int .i64 ta, .int .u8 tb, .int .i64 tm].toArray 46 (0, 0)) :: some (b0, .cells (f.cells (.slice A f.rows.length c)).toArray 41 (0, 0)) :: L)))) (.slice (cutA (some ⟨gO, 0, none⟩) 1 256 (i / 4 * 8)) 8 (256 - i / 4 * 8)) (seg8 (ownL xs) i) := Sl.cut (SlI.mono (fun a v h => Cell.cons _ (Cell.app _ h)) (SlI.own (L := (some (gO, .cells (ints .u8 (ownL xs)).toArray 5 (0, 0)) :: some (bT, .cells [.int .i64 ta, .int .u8 tb, .int .i64 tm].toArray 46 (0, 0)) :: some (b0, .cells (f.cells (.slice A f.rows.length c)).toArray 41 (0, 0)) :: L)) (xs := ownL xs) (n := 256) (c := 256) 0 rfl hol.symm (Nat.le_refl _))) (by omega)
            refine SX.drawn_d [(0, .q), (1, .q), (2, .q), (3, .q), (4, .q), (5, .q), (6, .q), (7, .q), (8, .q), (9, .q), (10, .q), (11, .q), (12, .q), (13, .q), (14, .q), (15, .q), (16, .q), (17, .e), (18, .q), (19, .t)] (fun _ => some (gF, .cells [.int .i64 0, .slice (some ⟨d.g, 0, none⟩) 128 128, .bool false].toArray 41 (0, 0)) :: some (d.g, .cells d.vals.toArray 50 (0, 0)) :: (some (gO, .cells (ints .u8 (ownL xs)).toArray 5 (0, 0)) :: some (bT, .cells [.int .i64 ta, .int .u8 tb, .int .i64 tm].toArray 46 (0, 0)) :: some (b0, .cells (f.cells (.slice A f.rows.length c)).toArray 41 (0, 0)) :: L)) (hP ▸ T.mixed) (by kernel_rfl) (by exact lessG13) [some 52, some 53, some 54, some 55, some 56, some 57, some 58, some 59, some 60, some 61, some 62, some 63, some 64, some 65, some 66, some 67, some 68, some 69, some 70, none] rfl (fun ops hops hopl => ?_)
            unfold Dsts at hops
            simp (maxSteps:=1000000)(dsimp:=false)(disch:=omega) only [go_sem, Φa, hP, h8_13, h8_5, h8_11, h8_12, hops, hopl, htd, hlo, hhi, hsub]
            refine ⟨_, Cell.at 0 rfl rfl, ?_⟩
            try with_reducible refine stI ?_
            try simp (maxSteps:=1000000)(dsimp:=false)(disch:=omega) only [go_sem, Φa, hP, h8_13, h8_5, h8_11, h8_12, hops, hopl, htd, hlo, hhi, hsub]
            refine ⟨_, Cell.at 0 rfl rfl, ?_⟩
            try with_reducible refine stI ?_
            try simp (maxSteps:=1000000)(dsimp:=false)(disch:=omega) only [go_sem, Φa, hP, h8_13, h8_5, h8_11, h8_12, hops, hopl, htd, hlo, hhi, hsub]
            refine ⟨_, Cell.at 1 rfl hv, ?_⟩
            try with_reducible refine stI ?_
            try simp (maxSteps:=1000000)(dsimp:=false)(disch:=omega) only [go_sem, Φa, hP, h8_13, h8_5, h8_11, h8_12, hops, hopl, htd, hlo, hhi, hsub]
            try refine ⟨⟨.inl rfl, by omega⟩, ?_⟩
            try with_reducible refine stI ?_
            try simp (maxSteps:=1000000)(dsimp:=false)(disch:=omega) only [go_sem, Φa, hP, h8_13, h8_5, h8_11, h8_12, hops, hopl, htd, hlo, hhi, hsub]
            refine YAppend.ints (i := i + 2) (hP ▸ T.elS_50) (hP ▸ T.zr_5) rfl (get2 hlj) hrw hcut (by rw [hs8]; decide) (by decide) ?_
            intro v' s' hr'
            obtain ⟨A', c', rfl, hcc', _⟩ := Row.form hr'
            try with_reducible refine stI ?_
            try simp (maxSteps:=1000000)(dsimp:=false)(disch:=omega) only [go_sem, Φa, hP, h8_13, h8_5, h8_11, h8_12, hops, hopl, htd, hlo, hhi, hsub]
            rw [seg_set hlj]
            refine ⟨lessG13 (d := ⟨d.g, d.vals, _⟩), ?_⟩
            try with_reducible refine stI ?_
            try simp (maxSteps:=1000000)(dsimp:=false)(disch:=omega) only [go_sem, Φa, hP, h8_13, h8_5, h8_11, h8_12, hops, hopl, htd, hlo, hhi, hsub]
            refine ⟨1, _, _, _, rfl, (by have := hd.nv; simp; omega), .inr (by omega), ?_⟩
            try with_reducible refine stI ?_
            try simp (maxSteps:=1000000)(dsimp:=false)(disch:=omega) only [go_sem, Φa, hP, h8_13, h8_5, h8_11, h8_12, hops, hopl, htd, hlo, hhi, hsub]
            refine hK22 _ _ ?_
            try clear hK22 K22
            refine SX.live [5, 11, 12, 13] (fun T9 hT9 => ?_)
            simp only [forall_mem_cons', forall_mem_nil', go_sem, Φa, hP, h8_13, h8_5, h8_11, h8_12] at hT9
            obtain ⟨h9_5, h9_11, h9_12, h9_13⟩ := hT9
            clear h8_13 h8_5 h8_11 h8_12 T8
            refine SX.region_d [some 50, some 51, some 13] rfl (fun ops hops => ?_)
            unfold Dsts at hops
            simp (maxSteps:=1000000)(dsimp:=false)(disch:=omega) only [go_sem, Φa, hP, h9_5, h9_11, h9_12, h9_13, hops]
            repeat' ((first | refine And.intro (by omega) ?_ | fail); try (with_reducible refine stI ?_); try simp (maxSteps:=1000000)(dsimp:=false)(disch:=omega) only [go_sem, Φa, hP, h9_5, h9_11, h9_12, h9_13, hops])
            refine hK18 (i + 1, (⟨d.g, d.vals.set i (.slice A' ([] ++ seg8 (ownL xs) i).length c'), d.ss.set i s'⟩ : Fd)) _ (some (gF, .cells [.int .i64 0, .slice (some ⟨((⟨d.g, d.vals.set i (.slice A' ([] ++ seg8 (ownL xs) i).length c'), d.ss.set i s'⟩ : Fd)).g, 0, none⟩) 128 128, .bool false].toArray 41 (0, 0)) :: (((⟨d.g, d.vals.set i (.slice A' ([] ++ seg8 (ownL xs) i).length c'), d.ss.set i s'⟩ : Fd)).seg ++ (some (gO, .cells (ints .u8 (ownL xs)).toArray 5 (0, 0)) :: some (bT, .cells [.int .i64 ta, .int .u8 tb, .int .i64 tm].toArray 46 (0, 0)) :: some (b0, .cells (f.cells (.slice A f.rows.length c)).toArray 41 (0, 0)) :: L))) _ (by exact less13 hlj) ?_ ?_
            · try dsimp only
              refine ⟨?_, ?_, ?_, ?_, ?_, ?_⟩
              · simp (maxSteps:=1000000)(dsimp:=false)(disch:=omega) only [go_sem, Φa, hP, h9_5, h9_11, h9_12, h9_13]
                first | done | rfl | skip
              · simp (maxSteps:=1000000)(dsimp:=false)(disch:=omega) only [go_sem, Φa, hP, h9_5, h9_11, h9_12, h9_13]
              · simp (maxSteps:=1000000)(dsimp:=false)(disch:=omega) only [go_sem, Φa, hP, h9_5, h9_11, h9_12, h9_13]
              · simp (maxSteps:=1000000)(dsimp:=false)(disch:=omega) only [go_sem, Φa, hP, h9_5, h9_11, h9_12, h9_13]
              · rfl
              · refine ⟨by omega, ?_⟩
                rw [← gRows_set (by omega)]
                exact hd.set (by omega) hr'
            · (try dsimp only); omega
          · clear hX21 hY21 X21 Y21
            refine SX.exit ?_
            try simp only [andThen_normal, andThen_ret, andThen_exit, inBlk_normal, inBlk_ret, inBlk_exit, Nat.reduceEqDiff, if_true, if_false, ↓reduceIte]
            refine hK16 _ _ ?_
            try clear hK16 K16
            refine SX.seq_k fun K23 hK23 => ?_
            obtain rfl : i = 128 := by omega
            obtain ⟨m, hm9, hm10⟩ := i64_and_le ta 1023 (by decide)
            rw [show (((1023 : Nat)) : Int) = 1023 from rfl] at hm9
            refine SX.region_d [some 71, some 72, some 73, some 14] rfl (fun ops hops => ?_)
            unfold Dsts at hops
            simp (maxSteps:=1000000)(dsimp:=false)(disch:=omega) only [go_sem, Φa, hP, h8_13, h8_5, h8_11, h8_12, hops, hm9]
            refine ⟨_, Cell.cons _ (Cell.app _ (Cell.at 1 rfl (show ([.int .i64 ta, .int .u8 tb, .int .i64 tm] : List Value)[0]? = _ from rfl))), ?_⟩
            try with_reducible refine stI ?_
            try simp (maxSteps:=1000000)(dsimp:=false)(disch:=omega) only [go_sem, Φa, hP, h8_13, h8_5, h8_11, h8_12, hops, hm9]
            refine hK23 _ _ ?_
            try clear hK23 K23
            refine SX.seq_k fun K24 hK24 => ?_
            have hq : m / 8 < 128 := by omega
            have hr8 : m % 8 < 8 := by omega
            have hol := ownL_len xs
            have hrw := hd.row (m / 8) hq
            rw [gRows_getD hq, if_pos hq] at hrw
            have hs8 := seg8_len hol hq
            obtain ⟨gq, capq, junkq, hvq, hsq, hcq, hjq⟩ := RowI.form2 hrw (by omega)
            rw [hs8] at hvq
            have hv := getD_get (d := undef) (by have := hd.nv; omega : m / 8 < d.vals.length)
            rw [hvq] at hv
            have hlj : m / 8 < d.ss.length := by have := hd.ns; omega
            have hg2 : (some (gF, .cells [.int .i64 0, .slice (some ⟨d.g, 0, none⟩) 128 128, .bool false].toArray 41 (0, 0)) :: (d.seg ++ (some (gO, .cells (ints .u8 (ownL xs)).toArray 5 (0, 0)) :: some (bT, .cells [.int .i64 ta, .int .u8 tb, .int .i64 tm].toArray 46 (0, 0)) :: some (b0, .cells (f.cells (.slice A f.rows.length c)).toArray 41 (0, 0)) :: L)))[m / 8 + 2]? = some (some (gq, .cells (ints .u8 (seg8 (ownL xs) (m / 8)) ++ junkq).toArray 5 (0, 0))) := by rw [get2 hlj, hsq]
            have hat := ints_app_at (k := .u8) (junk := junkq) (show m % 8 < (seg8 (ownL xs) (m / 8)).length by omega)
            have htd : (m : Int).tdiv 8 = ((m / 8 : Nat) : Int) := by rw [Int.tdiv_eq_ediv_of_nonneg (Int.natCast_nonneg _)]; omega
            have htm : (m : Int).tmod 8 = ((m % 8 : Nat) : Int) := tmod_nat m 8
            refine SX.drawn_d [(0, .q), (1, .q), (2, .q), (3, .q), (4, .q), (5, .q), (6, .q), (7, .q), (8, .q), (9, .q), (10, .q), (11, .q), (12, .q), (13, .q), (14, .q), (15, .q), (16, .q), (17, .q), (18, .q), (19, .q), (20, .q), (21, .q), (22, .t)] (fun L => L) (hP ▸ T.mixed) (by kernel_rfl) (by exact Less.refl _) [some 74, some 75, some 76, some 77, some 78, some 79, some 80, some 81, some 82, some 83, some 84, some 85, some 86, some 87, some 88, some 89, some 90, some 91, some 92, some 93, some 94, some 95, none] rfl (fun ops hops hopl => ?_)
            unfold Dsts at hops
            simp (maxSteps:=1000000)(dsimp:=false)(disch:=omega) only [go_sem, Φa, hP, h8_13, h8_5, h8_11, h8_12, hops, hopl, htd, htm]
            refine ⟨_, Cell.at 0 rfl rfl, ?_⟩
            try with_reducible refine stI ?_
            try simp (maxSteps:=1000000)(dsimp:=false)(disch:=omega) only [go_sem, Φa, hP, h8_13, h8_5, h8_11, h8_12, hops, hopl, htd, htm]
            refine ⟨_, Cell.at 1 rfl hv, ?_⟩
            try with_reducible refine stI ?_
            try simp (maxSteps:=1000000)(dsimp:=false)(disch:=omega) only [go_sem, Φa, hP, h8_13, h8_5, h8_11, h8_12, hops, hopl, htd, htm]
            refine ⟨_, Cell.at 0 rfl rfl, ?_⟩
            try with_reducible refine stI ?_
            try simp (maxSteps:=1000000)(dsimp:=false)(disch:=omega) only [go_sem, Φa, hP, h8_13, h8_5, h8_11, h8_12, hops, hopl, htd, htm]
            refine ⟨_, Cell.at 1 rfl hv, ?_⟩
            try with_reducible refine stI ?_
            try simp (maxSteps:=1000000)(dsimp:=false)(disch:=omega) only [go_sem, Φa, hP, h8_13, h8_5, h8_11, h8_12, hops, hopl, htd, htm]
            refine ⟨_, Cell.at (m / 8 + 2) hg2 hat, ?_⟩
            try with_reducible refine stI ?_
            try simp (maxSteps:=1000000)(dsimp:=false)(disch:=omega) only [go_sem, Φa, hP, h8_13, h8_5, h8_11, h8_12, hops, hopl, htd, htm]
            refine ⟨_, Cell.cons _ (Cell.app _ (Cell.at 1 rfl (show ([.int .i64 ta, .int .u8 tb, .int .i64 tm] : List Value)[1]? = _ from rfl))), ?_⟩
            try with_reducible refine stI ?_
            try simp (maxSteps:=1000000)(dsimp:=false)(disch:=omega) only [go_sem, Φa, hP, h8_13, h8_5, h8_11, h8_12, hops, hopl, htd, htm]
            refine ⟨m / 8 + 2, _, _, _, hg2, (by simp [ints_length]; omega), .inr (by omega), ?_⟩
            try with_reducible refine stI ?_
            try simp (maxSteps:=1000000)(dsimp:=false)(disch:=omega) only [go_sem, Φa, hP, h8_13, h8_5, h8_11, h8_12, hops, hopl, htd, htm]
            rw [ints_app_set (by omega)]
            try with_reducible refine stI ?_
            try simp (maxSteps:=1000000)(dsimp:=false)(disch:=omega) only [go_sem, Φa, hP, h8_13, h8_5, h8_11, h8_12, hops, hopl, htd, htm]
            refine hK24 _ _ ?_
            try clear hK24 K24
            refine SX.live [5, 11, 12] (fun T10 hT10 => ?_)
            simp only [forall_mem_cons', forall_mem_nil', go_sem, Φa, hP, h8_13, h8_5, h8_11, h8_12] at hT10
            obtain ⟨h10_5, h10_11, h10_12⟩ := hT10
            clear h8_13 h8_5 h8_11 h8_12 T8
            refine SX.seq_k fun K25 hK25 => ?_
            have hd2 : FdOk ((gRows (ownL xs) 128).set (m / 8) ((seg8 (ownL xs) (m / 8)).set (m % 8) (bits .xor .u8 ((seg8 (ownL xs) (m / 8)).getD (m % 8) 0) tb))) (Fd.mk d.g d.vals (d.ss.set (m / 8) (some (gq, .cells (ints .u8 ((seg8 (ownL xs) (m / 8)).set (m % 8) (bits .xor .u8 ((seg8 (ownL xs) (m / 8)).getD (m % 8) 0) tb)) ++ junkq).toArray 5 (0, 0))))) := hd.put hq (by
              rw [hvq]
              have hmk := RowI.mk2 (k := .u8) (e := 5) (l := (seg8 (ownL xs) (m / 8)).set (m % 8) (bits .xor .u8 ((seg8 (ownL xs) (m / 8)).getD (m % 8) 0) tb)) (r := gq) (cap := capq) (junk := junkq) (by rw [List.length_set, hs8]; rw [hs8] at hcq; exact hcq) (by rw [List.length_set]; exact hjq)
              rw [List.length_set, hs8] at hmk
              exact hmk)
            have hbO := ownL_byte hxb
            have hsb8 : Byte (seg8 (ownL xs) (m / 8)) := fun x hx => hbO x (List.mem_of_mem_drop (List.mem_of_mem_take hx))
            have hel : 0 ≤ (seg8 (ownL xs) (m / 8)).getD (m % 8) 0 ∧ (seg8 (ownL xs) (m / 8)).getD (m % 8) 0 ≤ 255 := hsb8 _ (List.mem_of_getElem? (getD_get (d := 0) (by omega)))
            have hxy := xor_byte hel htb
            refine SX.less (L' := some (gF, .cells [.int .i64 0, .slice (some ⟨d.g, 0, none⟩) 128 128, .bool false].toArray 41 (0, 0)) :: ((Fd.mk d.g d.vals (d.ss.set (m / 8) (some (gq, .cells (ints .u8 ((seg8 (ownL xs) (m / 8)).set (m % 8) (bits .xor .u8 ((seg8 (ownL xs) (m / 8)).getD (m % 8) 0) tb)) ++ junkq).toArray 5 (0, 0))))).seg ++ (some (gO, .cells (ints .u8 (ownL xs)).toArray 5 (0, 0)) :: some (bT, .cells [.int .i64 ta, .int .u8 tb, .int .i64 tm].toArray 46 (0, 0)) :: some (b0, .cells (f.cells (.slice A f.rows.length c)).toArray 41 (0, 0)) :: L))) (by first | exact Less.refl _ | (show Less (_ :: (d.seg ++ _).set (m / 8 + 1) _) _; rw [seg_set hlj]; exact Less.refl _)) ?_
            have hgl : ∀ i, i < 128 → (List.getD ((gRows (ownL xs) 128).set (m / 8) ((seg8 (ownL xs) (m / 8)).set (m % 8) (bits .xor .u8 ((seg8 (ownL xs) (m / 8)).getD (m % 8) 0) tb))) i []) = if m / 8 = i then (seg8 (ownL xs) (m / 8)).set (m % 8) (bits .xor .u8 ((seg8 (ownL xs) (m / 8)).getD (m % 8) 0) tb) else seg8 (ownL xs) i := fun i hi => by
              rw [set_getD, gRows_getD hi, if_pos hi, gRows_len]
              by_cases h1 : m / 8 = i
              · rw [if_pos ⟨h1, hq⟩, if_pos h1]
              · rw [if_neg (fun hh => h1 hh.1), if_neg h1]
            have hcn2 : cnt ((gRows (ownL xs) 128).set (m / 8) ((seg8 (ownL xs) (m / 8)).set (m % 8) (bits .xor .u8 ((seg8 (ownL xs) (m / 8)).getD (m % 8) 0) tb))) = 1024 := (may_full (by rw [List.length_set, gRows_len]) fun i hi => by rw [hgl i hi]; by_cases he : m / 8 = i; (rw [if_pos he, List.length_set]; exact hs8); (rw [if_neg he]; exact seg8_len hol hi)).2
            have hby2 : ∀ i, i < ((gRows (ownL xs) 128).set (m / 8) ((seg8 (ownL xs) (m / 8)).set (m % 8) (bits .xor .u8 ((seg8 (ownL xs) (m / 8)).getD (m % 8) 0) tb))).length → ∀ j, j < (List.getD ((gRows (ownL xs) 128).set (m / 8) ((seg8 (ownL xs) (m / 8)).set (m % 8) (bits .xor .u8 ((seg8 (ownL xs) (m / 8)).getD (m % 8) 0) tb))) i []).length → 0 ≤ (List.getD ((gRows (ownL xs) 128).set (m / 8) ((seg8 (ownL xs) (m / 8)).set (m % 8) (bits .xor .u8 ((seg8 (ownL xs) (m / 8)).getD (m % 8) 0) tb))) i []).getD j 0 ∧ (List.getD ((gRows (ownL xs) 128).set (m / 8) ((seg8 (ownL xs) (m / 8)).set (m % 8) (bits .xor .u8 ((seg8 (ownL xs) (m / 8)).getD (m % 8) 0) tb))) i []).getD j 0 ≤ 255 := fun i hi j hj => by
              rw [List.length_set, gRows_len] at hi
              have hmem := List.mem_of_getElem? (getD_get (d := (0 : Int)) hj)
              rw [hgl i hi] at hmem hj ⊢
              split at hmem
              · rename_i he
                rw [if_pos he] at hj ⊢
                rcases List.mem_or_eq_of_mem_set hmem with h | h
                · exact hsb8 _ h
                · rw [h]; exact hxy
              · rename_i he
                rw [if_neg he] at hj ⊢
                exact hbO _ (List.mem_of_mem_drop (List.mem_of_mem_take hmem))
            refine SX.region_d [some 97, some 98, some 96, some 99, some 100, some 7, some 8] rfl (fun ops hops => ?_)
            unfold Dsts at hops
            simp (maxSteps:=1000000)(dsimp:=false)(disch:=omega) only [go_sem, Φa, hP, h10_5, h10_11, h10_12, hops]
            refine ⟨_, Cell.at 0 rfl rfl, _, Cell.at 0 rfl rfl, _, Cell.at 0 rfl rfl, ?_⟩
            try with_reducible refine stI ?_
            try simp (maxSteps:=1000000)(dsimp:=false)(disch:=omega) only [go_sem, Φa, hP, h10_5, h10_11, h10_12, hops]
            refine SCall.mono (Page_spec (f := (⟨0, (gRows (ownL xs) 128).set (m / 8) ((seg8 (ownL xs) (m / 8)).set (m % 8) (bits .xor .u8 ((seg8 (ownL xs) (m / 8)).getD (m % 8) 0) tb)), false⟩ : Fm)) hP (hd2.sl (fun s hs => List.mem_cons_of_mem _ (List.mem_append_left _ hs))) (by rw [hcn2]; decide) (by rw [List.length_set, gRows_len]; decide) hby2) ?_
            rintro v_ L_ ⟨vo3, so3, rfl, rfl, hrow3⟩
            generalize hPP : pageP (⟨0, (gRows (ownL xs) 128).set (m / 8) ((seg8 (ownL xs) (m / 8)).set (m % 8) (bits .xor .u8 ((seg8 (ownL xs) (m / 8)).getD (m % 8) 0) tb)), false⟩ : Fm) = PP at hrow3 ⊢
            obtain ⟨A3, c3, rfl, hcc3, _⟩ := Row.form hrow3
            try with_reducible refine stI ?_
            try simp (maxSteps:=1000000)(dsimp:=false)(disch:=omega) only [go_sem, Φa, hP, h10_5, h10_11, h10_12, hops]
            refine hK25 _ _ ?_
            try clear hK25 K25
            refine SX.seq_k fun K26 hK26 => ?_
            refine SX.seq_k fun K27 hK27 => ?_
            refine SX.region_d [some 101, some 102, some 103] rfl (fun ops hops => ?_)
            unfold Dsts at hops
            simp (maxSteps:=1000000)(dsimp:=false)(disch:=omega) only [go_sem, Φa, hP, h10_5, h10_11, h10_12, hops]
            refine ⟨_, Cell.cons _ (Cell.cons _ (Cell.app _ (Cell.at 1 rfl (show ([.int .i64 ta, .int .u8 tb, .int .i64 tm] : List Value)[1]? = _ from rfl)))), ?_⟩
            try with_reducible refine stI ?_
            try simp (maxSteps:=1000000)(dsimp:=false)(disch:=omega) only [go_sem, Φa, hP, h10_5, h10_11, h10_12, hops]
            refine hK27 _ _ ?_
            try clear hK27 K27
            refine SX.live [7, 8, 11, 103] (fun T11 hT11 => ?_)
            simp only [forall_mem_cons', forall_mem_nil', go_sem, Φa, hP, h10_5, h10_11, h10_12] at hT11
            obtain ⟨h11_7, h11_8, h11_11, h11_103⟩ := hT11
            clear h10_5 h10_11 h10_12 T10
            refine SX.cond_k fun X28 Y28 hX28 hY28 => ?_
            simp (maxSteps:=1000000)(dsimp:=false)(disch:=omega) only [go_sem, Φa, hP, h11_7, h11_8, h11_11, h11_103, condVC]
            refine ⟨fun hc103 => hX28 ?_, fun hc103 => hY28 ?_⟩
            · clear hX28 hY28 X28 Y28
              refine SX.seq_k fun K29 hK29 => ?_
              refine SX.region_xd [some 104, some 105, some 106, some 107, some 108, some 109, some 110, some 111, some 112, some 113, some 6] rfl (fun ops hops => ?_)
              unfold Dsts at hops
              refine RX.live [7, 8] (fun T12 hT12 => ?_)
              simp only [forall_mem_cons', forall_mem_nil', go_sem, Φa, hP, h11_7, h11_8, h11_11, h11_103] at hT12
              obtain ⟨h12_7, h12_8⟩ := hT12
              clear h11_7 h11_8 h11_11 h11_103 T11
              have hnz : tb ≠ 0 := by simpa using hc103
              obtain rfl : PP = none := hPP.symm.trans (page_off hol hq hr8 (xor_ne hel htb hnz))
              refine RX.join 7 (fun (ss : Unit) T L' => T 110 = .bool (true) ∧ L' = so3 :: some (gF, .cells [.int .i64 0, .slice (some ⟨d.g, 0, none⟩) 128 128, .bool false].toArray 41 (0, 0)) :: ((Fd.mk d.g d.vals (d.ss.set (m / 8) (some (gq, .cells (ints .u8 ((seg8 (ownL xs) (m / 8)).set (m % 8) (bits .xor .u8 ((seg8 (ownL xs) (m / 8)).getD (m % 8) 0) tb)) ++ junkq).toArray 5 (0, 0))))).seg ++ (some (gO, .cells (ints .u8 (ownL xs)).toArray 5 (0, 0)) :: some (bT, .cells [.int .i64 ta, .int .u8 tb, .int .i64 tm].toArray 46 (0, 0)) :: some (b0, .cells (f.cells (.slice A f.rows.length c)).toArray 41 (0, 0)) :: L)) ∧ (True)) (fun K30 hK30 => ?_) ?_
              · simp (maxSteps:=1000000)(dsimp:=false)(disch:=omega) only [go_sem, Φa, hP, h12_7, h12_8, hops, Option.isSome_none, Option.getD_none, List.length_nil]
                repeat' (first | refine iteB (fun hg => ?_) (fun hg => ?_) | refine iteI (fun hg => ?_) (fun hg => ?_) | ((first | (refine SCall.mono (awake_spec hP S) ?_; rintro v_ L_ ⟨hv_, hL_⟩; rw [hv_, hL_]; clear hv_ hL_ v_ L_) | refine And.intro (by omega) ?_ | refine ⟨_, Cell.at 0 rfl rfl, ?_⟩ | refine ⟨_, Cell.at 1 rfl rfl, ?_⟩ | refine ⟨_, Cell.at 2 rfl rfl, ?_⟩ | refine ⟨_, Cell.at 3 rfl rfl, ?_⟩ | refine ⟨_, Cell.at 4 rfl rfl, ?_⟩ | fail); try (with_reducible refine stI ?_); try simp (maxSteps:=1000000)(dsimp:=false)(disch:=omega) only [go_sem, Φa, hP, h12_7, h12_8, hops, Option.isSome_none, Option.getD_none, List.length_nil]) | fail)
                all_goals
                  refine hK30 () _ (so3 :: some (gF, .cells [.int .i64 0, .slice (some ⟨d.g, 0, none⟩) 128 128, .bool false].toArray 41 (0, 0)) :: ((Fd.mk d.g d.vals (d.ss.set (m / 8) (some (gq, .cells (ints .u8 ((seg8 (ownL xs) (m / 8)).set (m % 8) (bits .xor .u8 ((seg8 (ownL xs) (m / 8)).getD (m % 8) 0) tb)) ++ junkq).toArray 5 (0, 0))))).seg ++ (some (gO, .cells (ints .u8 (ownL xs)).toArray 5 (0, 0)) :: some (bT, .cells [.int .i64 ta, .int .u8 tb, .int .i64 tm].toArray 46 (0, 0)) :: some (b0, .cells (f.cells (.slice A f.rows.length c)).toArray 41 (0, 0)) :: L))) _ (by first | exact Less.refl _ | exact Less.drop _ _ | exact Less.drops (Less.drop _ _) | exact Less.drops (Less.drops (Less.drop _ _)) | exact Less.drops (Less.drops (Less.drops (Less.drop _ _))) | exact Less.drops (Less.drops (Less.drops (Less.drops (Less.drop _ _))))) ?_
                  try dsimp only
                  refine ⟨?_, ?_, ?_⟩
                  · simp (maxSteps:=1000000)(dsimp:=false)(disch:=omega) only [go_sem, Φa, hP, h12_7, h12_8]
                    first | done | rfl | (refine congrArg Value.bool ?_; simp; done)
                  · rfl
                  · trivial
              · intro ss T13 L13 hI
                obtain ⟨h13_110, hL13, hinv⟩ := hI
                replace hL13 := hL13.symm
                subst hL13
                clear h12_7 h12_8 T12
                refine RX.live [110] (fun T14 hT14 => ?_)
                simp only [forall_mem_cons', forall_mem_nil', go_sem, Φa, hP, h13_110] at hT14
                have h14_110 := hT14; clear hT14
                clear h13_110 T13
                refine RX.join 3 (fun (ss : Unit) T L' => T 113 = .bool (true) ∧ L' = so3 :: some (gF, .cells [.int .i64 0, .slice (some ⟨d.g, 0, none⟩) 128 128, .bool false].toArray 41 (0, 0)) :: ((Fd.mk d.g d.vals (d.ss.set (m / 8) (some (gq, .cells (ints .u8 ((seg8 (ownL xs) (m / 8)).set (m % 8) (bits .xor .u8 ((seg8 (ownL xs) (m / 8)).getD (m % 8) 0) tb)) ++ junkq).toArray 5 (0, 0))))).seg ++ (some (gO, .cells (ints .u8 (ownL xs)).toArray 5 (0, 0)) :: some (bT, .cells [.int .i64 ta, .int .u8 tb, .int .i64 tm].toArray 46 (0, 0)) :: some (b0, .cells (f.cells (.slice A f.rows.length c)).toArray 41 (0, 0)) :: L)) ∧ (True)) (fun K31 hK31 => ?_) ?_
                · simp (maxSteps:=1000000)(dsimp:=false)(disch:=omega) only [go_sem, Φa, hP, h14_110, hops, Option.isSome_none, Option.getD_none, List.length_nil]
                  repeat' (first | refine iteB (fun hg => ?_) (fun hg => ?_) | refine iteI (fun hg => ?_) (fun hg => ?_) | ((first | (refine SCall.mono (awake_spec hP S) ?_; rintro v_ L_ ⟨hv_, hL_⟩; rw [hv_, hL_]; clear hv_ hL_ v_ L_) | refine And.intro (by omega) ?_ | refine ⟨_, Cell.at 0 rfl rfl, ?_⟩ | refine ⟨_, Cell.at 1 rfl rfl, ?_⟩ | refine ⟨_, Cell.at 2 rfl rfl, ?_⟩ | refine ⟨_, Cell.at 3 rfl rfl, ?_⟩ | refine ⟨_, Cell.at 4 rfl rfl, ?_⟩ | fail); try (with_reducible refine stI ?_); try simp (maxSteps:=1000000)(dsimp:=false)(disch:=omega) only [go_sem, Φa, hP, h14_110, hops, Option.isSome_none, Option.getD_none, List.length_nil]) | fail)
                  all_goals
                    refine hK31 () _ (so3 :: some (gF, .cells [.int .i64 0, .slice (some ⟨d.g, 0, none⟩) 128 128, .bool false].toArray 41 (0, 0)) :: ((Fd.mk d.g d.vals (d.ss.set (m / 8) (some (gq, .cells (ints .u8 ((seg8 (ownL xs) (m / 8)).set (m % 8) (bits .xor .u8 ((seg8 (ownL xs) (m / 8)).getD (m % 8) 0) tb)) ++ junkq).toArray 5 (0, 0))))).seg ++ (some (gO, .cells (ints .u8 (ownL xs)).toArray 5 (0, 0)) :: some (bT, .cells [.int .i64 ta, .int .u8 tb, .int .i64 tm].toArray 46 (0, 0)) :: some (b0, .cells (f.cells (.slice A f.rows.length c)).toArray 41 (0, 0)) :: L))) _ (by first | exact Less.refl _ | exact Less.drop _ _ | exact Less.drops (Less.drop _ _) | exact Less.drops (Less.drops (Less.drop _ _)) | exact Less.drops (Less.drops (Less.drops (Less.drop _ _))) | exact Less.drops (Less.drops (Less.drops (Less.drops (Less.drop _ _))))) ?_
                    try dsimp only
                    refine ⟨?_, ?_, ?_⟩
                    · simp (maxSteps:=1000000)(dsimp:=false)(disch:=omega) only [go_sem, Φa, hP, h14_110]
                      first | done | rfl | (refine congrArg Value.bool ?_; simp; done)
                    · rfl
                    · trivial
                · intro ss T15 L15 hI
                  obtain ⟨h15_113, hL15, hinv⟩ := hI
                  replace hL15 := hL15.symm
                  subst hL15
                  clear h14_110 T14
                  refine RX.done ?_
                  simp (maxSteps:=1000000)(dsimp:=false)(disch:=omega) only [go_sem, Φa, hP, h15_113, hops]
                  refine hK29 _ _ ?_
                  try clear hK29 K29
                  refine SX.ret ?_
                  simp only [andThen_normal, andThen_ret, andThen_exit, inBlk_normal, inBlk_ret, inBlk_exit, Nat.reduceEqDiff, if_true, if_false, ↓reduceIte, retQ_ret]
                  try simp only [res0, res1, res2, res3, stK_e, go_sem, Φa, hP, h15_113]
                  exact ⟨_, _, Less.drops (Less.drops (Less.sublist (List.Sublist.trans (.cons _ (.cons _ (.cons _ (List.Sublist.refl _)))) (List.sublist_append_right _ _)))), rfl, rfl, rfl⟩
            · clear hX28 hY28 X28 Y28
              refine SX.skip ?_
              try simp only [andThen_normal, andThen_ret, andThen_exit, inBlk_normal, inBlk_ret, inBlk_exit, Nat.reduceEqDiff, if_true, if_false, ↓reduceIte]
              refine hK26 _ _ ?_
              try clear hK26 K26
              refine SX.seq_k fun K32 hK32 => ?_
              refine SX.region_xd [some 114, some 115, some 116, some 117, some 118, some 119, some 120, some 121, some 122, some 123, some 124, some 6] rfl (fun ops hops => ?_)
              unfold Dsts at hops
              refine RX.live [7, 8, 11] (fun T16 hT16 => ?_)
              simp only [forall_mem_cons', forall_mem_nil', go_sem, Φa, hP, h11_7, h11_8, h11_11, h11_103] at hT16
              obtain ⟨h16_7, h16_8, h16_11⟩ := hT16
              clear h11_7 h11_8 h11_11 h11_103 T11
              have hz0 : tb = 0 := by simpa using hc103
              obtain rfl : PP = some (ownL xs) := hPP.symm.trans (by rw [hz0, xor_zero' hel, gRows_turn_zero hol hq hr8]; exact page_same hol)
              have hsl3 : SlI .u8 (Cell Γ (so3 :: some (gF, .cells [.int .i64 0, .slice (some ⟨d.g, 0, none⟩) 128 128, .bool false].toArray 41 (0, 0)) :: ((Fd.mk d.g d.vals (d.ss.set (m / 8) (some (gq, .cells (ints .u8 ((seg8 (ownL xs) (m / 8)).set (m % 8) (bits .xor .u8 ((seg8 (ownL xs) (m / 8)).getD (m % 8) 0) tb)) ++ junkq).toArray 5 (0, 0))))).seg ++ (some (gO, .cells (ints .u8 (ownL xs)).toArray 5 (0, 0)) :: some (bT, .cells [.int .i64 ta, .int .u8 tb, .int .i64 tm].toArray 46 (0, 0)) :: some (b0, .cells (f.cells (.slice A f.rows.length c)).toArray 41 (0, 0)) :: L)))) (.slice A3 (ownL xs).length c3) (ownL xs) := RowI.sl (i := 0) hrow3 rfl
              have hslo : SlI .u8 (Cell Γ (so3 :: some (gF, .cells [.int .i64 0, .slice (some ⟨d.g, 0, none⟩) 128 128, .bool false].toArray 41 (0, 0)) :: ((Fd.mk d.g d.vals (d.ss.set (m / 8) (some (gq, .cells (ints .u8 ((seg8 (ownL xs) (m / 8)).set (m % 8) (bits .xor .u8 ((seg8 (ownL xs) (m / 8)).getD (m % 8) 0) tb)) ++ junkq).toArray 5 (0, 0))))).seg ++ (some (gO, .cells (ints .u8 (ownL xs)).toArray 5 (0, 0)) :: some (bT, .cells [.int .i64 ta, .int .u8 tb, .int .i64 tm].toArray 46 (0, 0)) :: some (b0, .cells (f.cells (.slice A f.rows.length c)).toArray 41 (0, 0)) :: L)))) (.slice (some ⟨gO, 0, none⟩) 256 256) (ownL xs) := SlI.mono (fun a v h => Cell.cons _ (Cell.cons _ (Cell.app _ h))) (SlI.own (L := (some (gO, .cells (ints .u8 (ownL xs)).toArray 5 (0, 0)) :: some (bT, .cells [.int .i64 ta, .int .u8 tb, .int .i64 tm].toArray 46 (0, 0)) :: some (b0, .cells (f.cells (.slice A f.rows.length c)).toArray 41 (0, 0)) :: L)) (xs := ownL xs) (n := 256) (c := 256) 0 rfl hol.symm (Nat.le_refl _))
              refine RX.join 8 (fun (ss : Unit) T L' => T 121 = .bool (true) ∧ L' = so3 :: some (gF, .cells [.int .i64 0, .slice (some ⟨d.g, 0, none⟩) 128 128, .bool false].toArray 41 (0, 0)) :: ((Fd.mk d.g d.vals (d.ss.set (m / 8) (some (gq, .cells (ints .u8 ((seg8 (ownL xs) (m / 8)).set (m % 8) (bits .xor .u8 ((seg8 (ownL xs) (m / 8)).getD (m % 8) 0) tb)) ++ junkq).toArray 5 (0, 0))))).seg ++ (some (gO, .cells (ints .u8 (ownL xs)).toArray 5 (0, 0)) :: some (bT, .cells [.int .i64 ta, .int .u8 tb, .int .i64 tm].toArray 46 (0, 0)) :: some (b0, .cells (f.cells (.slice A f.rows.length c)).toArray 41 (0, 0)) :: L)) ∧ (True)) (fun K33 hK33 => ?_) ?_
              · simp (maxSteps:=1000000)(dsimp:=false)(disch:=omega) only [go_sem, Φa, hP, h16_7, h16_8, h16_11, hops, Option.isSome_some, Option.getD_some]
                repeat' (first | refine iteB (fun hg => ?_) (fun hg => ?_) | refine iteI (fun hg => ?_) (fun hg => ?_) | ((first | ((with_reducible show convVCH _ _ _ (.slice A3 _ _) _ _ _ _ _ _); refine conv_row (hP ▸ Tryd.underlying50) (hP ▸ Tryd.underlying9) (hP ▸ Tryd.underlying5) hsl3 hbO ?_) | (refine conv_row (hP ▸ Tryd.underlying50) (hP ▸ Tryd.underlying9) (hP ▸ Tryd.underlying5) hslo hbO ?_) | (refine SCall.mono (awake_spec hP S) ?_; rintro v_ L_ ⟨hv_, hL_⟩; rw [hv_, hL_]; clear hv_ hL_ v_ L_) | refine And.intro (by omega) ?_ | refine ⟨_, Cell.at 0 rfl rfl, ?_⟩ | refine ⟨_, Cell.at 1 rfl rfl, ?_⟩ | refine ⟨_, Cell.at 2 rfl rfl, ?_⟩ | refine ⟨_, Cell.at 3 rfl rfl, ?_⟩ | refine ⟨_, Cell.at 4 rfl rfl, ?_⟩ | fail); try (with_reducible refine stI ?_); try simp (maxSteps:=1000000)(dsimp:=false)(disch:=omega) only [go_sem, Φa, hP, h16_7, h16_8, h16_11, hops, Option.isSome_some, Option.getD_some]) | simp (maxSteps:=1000000)(dsimp:=false)(disch:=omega) only [go_sem, Φa, hP, h16_7, h16_8, h16_11, hops, Option.isSome_some, Option.getD_some] | fail)
                all_goals
                  refine hK33 () _ (so3 :: some (gF, .cells [.int .i64 0, .slice (some ⟨d.g, 0, none⟩) 128 128, .bool false].toArray 41 (0, 0)) :: ((Fd.mk d.g d.vals (d.ss.set (m / 8) (some (gq, .cells (ints .u8 ((seg8 (ownL xs) (m / 8)).set (m % 8) (bits .xor .u8 ((seg8 (ownL xs) (m / 8)).getD (m % 8) 0) tb)) ++ junkq).toArray 5 (0, 0))))).seg ++ (some (gO, .cells (ints .u8 (ownL xs)).toArray 5 (0, 0)) :: some (bT, .cells [.int .i64 ta, .int .u8 tb, .int .i64 tm].toArray 46 (0, 0)) :: some (b0, .cells (f.cells (.slice A f.rows.length c)).toArray 41 (0, 0)) :: L))) _ (by first | exact Less.refl _ | exact Less.drop _ _ | exact Less.drops (Less.drop _ _) | exact Less.drops (Less.drops (Less.drop _ _)) | exact Less.drops (Less.drops (Less.drops (Less.drop _ _))) | exact Less.drops (Less.drops (Less.drops (Less.drops (Less.drop _ _))))) ?_
                  try dsimp only
                  refine ⟨?_, ?_, ?_⟩
                  · simp (maxSteps:=1000000)(dsimp:=false)(disch:=omega) only [go_sem, Φa, hP, h16_7, h16_8, h16_11]
                    first | done | rfl | (refine congrArg Value.bool ?_; simp; done)
                  · rfl
                  · trivial
              · intro ss T17 L17 hI
                obtain ⟨h17_121, hL17, hinv⟩ := hI
                replace hL17 := hL17.symm
                subst hL17
                clear h16_7 h16_8 h16_11 T16
                refine RX.live [121] (fun T18 hT18 => ?_)
                simp only [forall_mem_cons', forall_mem_nil', go_sem, Φa, hP, h17_121] at hT18
                have h18_121 := hT18; clear hT18
                clear h17_121 T17
                refine RX.join 3 (fun (ss : Unit) T L' => T 124 = .bool (true) ∧ L' = so3 :: some (gF, .cells [.int .i64 0, .slice (some ⟨d.g, 0, none⟩) 128 128, .bool false].toArray 41 (0, 0)) :: ((Fd.mk d.g d.vals (d.ss.set (m / 8) (some (gq, .cells (ints .u8 ((seg8 (ownL xs) (m / 8)).set (m % 8) (bits .xor .u8 ((seg8 (ownL xs) (m / 8)).getD (m % 8) 0) tb)) ++ junkq).toArray 5 (0, 0))))).seg ++ (some (gO, .cells (ints .u8 (ownL xs)).toArray 5 (0, 0)) :: some (bT, .cells [.int .i64 ta, .int .u8 tb, .int .i64 tm].toArray 46 (0, 0)) :: some (b0, .cells (f.cells (.slice A f.rows.length c)).toArray 41 (0, 0)) :: L)) ∧ (True)) (fun K34 hK34 => ?_) ?_
                · simp (maxSteps:=1000000)(dsimp:=false)(disch:=omega) only [go_sem, Φa, hP, h18_121, hops, Option.isSome_some, Option.getD_some]
                  repeat' (first | refine iteB (fun hg => ?_) (fun hg => ?_) | refine iteI (fun hg => ?_) (fun hg => ?_) | ((first | ((with_reducible show convVCH _ _ _ (.slice A3 _ _) _ _ _ _ _ _); refine conv_row (hP ▸ Tryd.underlying50) (hP ▸ Tryd.underlying9) (hP ▸ Tryd.underlying5) hsl3 hbO ?_) | (refine conv_row (hP ▸ Tryd.underlying50) (hP ▸ Tryd.underlying9) (hP ▸ Tryd.underlying5) hslo hbO ?_) | (refine SCall.mono (awake_spec hP S) ?_; rintro v_ L_ ⟨hv_, hL_⟩; rw [hv_, hL_]; clear hv_ hL_ v_ L_) | refine And.intro (by omega) ?_ | refine ⟨_, Cell.at 0 rfl rfl, ?_⟩ | refine ⟨_, Cell.at 1 rfl rfl, ?_⟩ | refine ⟨_, Cell.at 2 rfl rfl, ?_⟩ | refine ⟨_, Cell.at 3 rfl rfl, ?_⟩ | refine ⟨_, Cell.at 4 rfl rfl, ?_⟩ | fail); try (with_reducible refine stI ?_); try simp (maxSteps:=1000000)(dsimp:=false)(disch:=omega) only [go_sem, Φa, hP, h18_121, hops, Option.isSome_some, Option.getD_some]) | simp (maxSteps:=1000000)(dsimp:=false)(disch:=omega) only [go_sem, Φa, hP, h18_121, hops, Option.isSome_some, Option.getD_some] | fail)
                  all_goals
                    refine hK34 () _ (so3 :: some (gF, .cells [.int .i64 0, .slice (some ⟨d.g, 0, none⟩) 128 128, .bool false].toArray 41 (0, 0)) :: ((Fd.mk d.g d.vals (d.ss.set (m / 8) (some (gq, .cells (ints .u8 ((seg8 (ownL xs) (m / 8)).set (m % 8) (bits .xor .u8 ((seg8 (ownL xs) (m / 8)).getD (m % 8) 0) tb)) ++ junkq).toArray 5 (0, 0))))).seg ++ (some (gO, .cells (ints .u8 (ownL xs)).toArray 5 (0, 0)) :: some (bT, .cells [.int .i64 ta, .int .u8 tb, .int .i64 tm].toArray 46 (0, 0)) :: some (b0, .cells (f.cells (.slice A f.rows.length c)).toArray 41 (0, 0)) :: L))) _ (by first | exact Less.refl _ | exact Less.drop _ _ | exact Less.drops (Less.drop _ _) | exact Less.drops (Less.drops (Less.drop _ _)) | exact Less.drops (Less.drops (Less.drops (Less.drop _ _))) | exact Less.drops (Less.drops (Less.drops (Less.drops (Less.drop _ _))))) ?_
                    try dsimp only
                    refine ⟨?_, ?_, ?_⟩
                    · simp (maxSteps:=1000000)(dsimp:=false)(disch:=omega) only [go_sem, Φa, hP, h18_121]
                      first | done | rfl | (refine congrArg Value.bool ?_; simp; done)
                    · rfl
                    · trivial
                · intro ss T19 L19 hI
                  obtain ⟨h19_124, hL19, hinv⟩ := hI
                  replace hL19 := hL19.symm
                  subst hL19
                  clear h18_121 T18
                  refine RX.done ?_
                  simp (maxSteps:=1000000)(dsimp:=false)(disch:=omega) only [go_sem, Φa, hP, h19_124, hops]
                  refine hK32 _ _ ?_
                  try clear hK32 K32
                  refine SX.ret ?_
                  simp only [andThen_normal, andThen_ret, andThen_exit, inBlk_normal, inBlk_ret, inBlk_exit, Nat.reduceEqDiff, if_true, if_false, ↓reduceIte, retQ_ret]
                  try simp only [res0, res1, res2, res3, stK_e, go_sem, Φa, hP, h19_124]
                  exact ⟨_, _, Less.drops (Less.drops (Less.sublist (List.Sublist.trans (.cons _ (.cons _ (.cons _ (List.Sublist.refl _)))) (List.sublist_append_right _ _)))), rfl, rfl, rfl⟩

end Go.Proofs.YtpakphgeichopaaDoor
set_option linter.unusedVariables false
namespace Go.Proofs.YtpakphgeichopaaDoor
open Go.ChangeShapes Go.WideShapes Go.ChangeAt Go.RowKit Go.SX
def framePagesLaid : List (String × DataW Unit) := [("vesper/pixie.shown", Rows.laid_vesper_pixie_shown)]
set_option maxRecDepth 100000 in
theorem framePages_met (os : Os) (args : Array Value) : laidMetH Tryd.prog framePagesLaid ((World.doorLaid Tryd.prog 400 os).forCall (fun _ _ => 0) ⟨#[], args, []⟩).memory :=
  laidMetH_of_parts3 (fuel := 8) (laidMet_of_run' 8 (by kernel_rfl) (by kernel_rfl)) (by kernel_rfl) (by kernel_rfl)
set_option maxRecDepth 100000 in
theorem framePages_lifted (os : Os) (started : os.Started) (H : Type) (enc : TypeId × Value → H) :
    ReturnsInHanded {} Tryd.checked os 8 .any (fun w args => (Rows.framePagesSpec.pre enc Tryd.prog Tryd.f8 [] false w args ∧ laidMetH Tryd.prog framePagesLaid w) ∧ sizedMet enc Tryd.prog Tryd.f8 (OpenSpec.ofChange Rows.framePagesSpec) false w args)
      (Rows.framePagesSpec.post enc Tryd.prog Tryd.f8 false true false false) := by
  refine law_lifted_laid (C := Tryd.checked) (tb := 4) (laid := framePagesLaid) own started (by kernel_rfl) Tryd.func8
    (ChangeSpec.witness_shaped (enc := enc) (C := Tryd.checked) (os := os) (X := fun w _ => laidMetH Tryd.prog framePagesLaid w) false (World.doorLaid Tryd.prog 400 os) #[.agg #[.int .i64 0, .slice none 0 0, .bool false], .slice none 0 0, .agg #[.int .i64 0, .int .u8 0, .int .i64 0]] 8 rfl (World.shaped_of_RefB (by kernel_rfl) (by kernel_rfl)) (by kernel_rfl) (by kernel_rfl) (by kernel_rfl) (framePages_met os _)) rfl laidOut (by kernel_rfl) rfl Tryd.underlying4 ?_ ?_
  · intro ds hl
    match ds, hl with
    | [d0, d1, d2], _ => rfl
  · intro W base args ds p hval hL hA
    rw [Tryd.params8] at hA hval
    obtain ⟨v0, v1, v2, d0, d1, d2, p0, p1, p2, rfl, rfl, rfl, h0, h1, h2⟩ := trodAll_three hA
    have k0 := hval 0 41 v0 rfl rfl
    obtain ⟨f, rv, rfl, hr, wf⟩ := open_frame k0 h0
    have k1 := hval 1 50 v1 rfl rfl
    obtain ⟨xs1, hx1, hw1, hl1⟩ := open_sl Tryd.underlying50 Tryd.underlying5 cells5 k1 h1
    have k2 := hval 2 46 v2 rfl rfl
    obtain ⟨ta, tb, tm, rfl, wa, wb, wm⟩ := open_turn k2 h2
    have hm : (maxLen : Nat) = 9223372036854775807 := rfl
    exact SCall.below (FramePages_spec rfl (shown_of (by kernel_rfl) hL (.head _)) hr.1 hx1 (fun n hn => by have := bounds_u8 (hw1 n hn); omega) wb hr.2.2 hr.by_)
theorem framePages_said : Rows.FramePagesSaid :=
  OpenClaim.holds_of_wide 8 Tryd.f8 rfl rfl rfl rfl rfl rfl rfl ⟨rfl, rfl, rfl, rfl, rfl⟩ rfl rfl rfl rfl rfl (by kernel_rfl) Tryd.func8 (by kernel_rfl)
    (of_decide_eq_true (by kernel_rfl)) (by unfold Func.isWrapper; first | (rw [if_pos (by decide +kernel)]; kernel_rfl) | (rw [if_neg (by decide +kernel)]; exact ⟨rfl, rfl⟩))
    (fun os started H enc _ => framePages_lifted os started H enc)
/-- The card. -/
theorem framePages_holds : Rows.FramePagesCardSaid :=
  Claim7.holds_tied_plain_at .later [] [.widerDeep] true (true, "bfff95df58350ba051ad0f59e866c79548283fd8b0d893cfa70888a4ef130374") false
    framePages_said (fun _ h => by cases h) (by kernel_rfl) (fun _ h => by cases h) framePages_row_tie rfl ⟨rfl, rfl⟩ (by kernel_rfl) rfl
    (fun f fn hf hfn => by
      obtain rfl : f = 8 := Option.some.inj ((show Tryd.prog.funcNamed "vesper/vesperlaw10.FramePages" = some 8 by kernel_rfl).symm.trans hf) |>.symm
      obtain rfl : fn = Tryd.f8 := (Option.some.inj (Tryd.func8.symm.trans hfn)).symm
      exact ⟨by kernel_rfl, fun j t ht => by
        rw [Tryd.params8] at ht
        have hm : t ∈ [41, 50, 46] := by simpa using Array.mem_of_getElem? ht
        have hall : ([41, 50, 46].all fun u => !Tryd.prog.wantsStandIn u) = true := by kernel_rfl
        exact (show Tryd.prog.wantsStandIn t = false by simpa using List.all_eq_true.1 hall t hm)⟩)
    (by kernel_rfl)
#print axioms framePages_holds
end Go.Proofs.YtpakphgeichopaaDoor
