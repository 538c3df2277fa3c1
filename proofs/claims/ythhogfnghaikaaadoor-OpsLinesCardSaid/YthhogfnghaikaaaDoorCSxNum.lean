/- A part of the proof of OpsLinesCardSaid. -/
import Derived.Test.YthhogfnghaikaaaDoorCSxRow
set_option linter.unusedVariables false
set_option linter.unusedSimpArgs false
/-! Numbers and lists for the walks. -/
namespace Go.SX
open Go.RowKit
theorem Cell.at {Γ : Ctx} {L : Hp} (i : Nat) {b off : Nat} {v : Value} {xs : List Value} {t : TypeId} {fr : Nat × Nat} (h : L[i]? = some (some (b, .cells xs.toArray t fr))) (hc : xs[off]? = some v) : Cell Γ L ⟨b, off, none⟩ v :=
  Cell.own i h (by simpa using hc)
theorem inc64 {k : Nat} (h : k < 9223372036854775807) : IntKind.i64.wrap ((k : Int) + 1) = ((k + 1 : Nat) : Int) := by rw [w64 (by omega)]; rfl
theorem list_eq_of {α : Type} {xs ys : List α} (hl : xs.length = ys.length) (h : ∀ j, j < xs.length → xs[j]? = ys[j]?) : xs = ys := by
  apply List.ext_getElem?
  intro i
  by_cases hi : i < xs.length
  · exact h i hi
  · rw [List.getElem?_eq_none (by omega), List.getElem?_eq_none (by omega)]
/-- Whole numbers as values. -/
def ints (k : IntKind) (l : List Int) : List Value := l.map fun x => .int k x
theorem ints_length (k : IntKind) (l : List Int) : (ints k l).length = l.length := by simp [ints]
theorem ints_app (k : IntKind) (l m : List Int) : ints k (l ++ m) = ints k l ++ ints k m := by simp [ints]
theorem ints_oneB (k : IntKind) (l : List Int) : oneB (ints k l) = true := by simp [ints, oneB, Value.oneCell']
theorem ints_at (k : IntKind) (l : List Int) (j : Nat) : (ints k l)[j]? = l[j]?.map (.int k) := by simp [ints]
theorem zerosV_ints (k : IntKind) (x : Int) (n : Nat) : zerosV [.int k x] n = ints k (List.replicate n x) := by
  unfold zerosV ints
  rw [List.map_replicate]
  induction n with
  | zero => rfl
  | succ n ih => rw [List.replicate_succ, List.flatten_cons, ih, List.replicate_succ]; rfl
theorem ints_set (k : IntKind) (l : List Int) (j : Nat) (x : Int) : (ints k l).set j (.int k x) = ints k (l.set j x) := by simp [ints, List.map_set]
/-- A row of whole numbers. -/
abbrev RowI (k : IntKind) (e : TypeId) (v : Value) (l : List Int) (s : Slot) : Prop := Row e 1 v l.length (ints k l) s
theorem RowI.nil (k : IntKind) (e : TypeId) : RowI k e (.slice none 0 0) [] none := Row.nil e 1
theorem RowI.sl {Γ : Ctx} {L : Hp} {k : IntKind} {e i : Nat} {v : Value} {l : List Int} {s : Slot} (h : RowI k e v l s) (hL : L[i]? = some s) : SlI k (Cell Γ L) v l :=
  Row.sl h hL rfl fun C j x a hj hc => by
    have := hc 0 (by omega) (.int k x) (by rw [Nat.mul_one, Nat.add_zero, ints_at, hj]; rfl)
    simpa [RInt, Addr.add] using this
theorem SlI.own {Γ : Ctx} {L : Hp} {k : IntKind} {xs : List Int} {b n c : Nat} {e : TypeId} {fr : Nat × Nat} (i : Nat) (hL : L[i]? = some (some (b, .cells (ints k xs).toArray e fr))) (hn : n = xs.length) (hc : n ≤ c) :
    SlI k (Cell Γ L) (.slice (some ⟨b, 0, none⟩) n c) xs := by
  subst hn
  refine ⟨_, c, rfl, hc, fun j x hj => ⟨_, rfl, ?_⟩⟩
  show Cell Γ L _ _
  rw [Nat.mul_one, Addr.add_lit, Nat.zero_add]
  exact Cell.own i hL (by simp [ints, hj])
theorem SlI.cons {Γ : Ctx} {L : Hp} {k : IntKind} {xs : List Int} {v : Value} (p : Slot) (h : SlI k (Cell Γ L) v xs) : SlI k (Cell Γ (p :: L)) v xs := by
  obtain ⟨A, c, h1, h2, h3⟩ := h
  exact ⟨A, c, h1, h2, fun j x hj => let ⟨a, e1, e2⟩ := h3 j x hj; ⟨a, e1, Cell.cons p e2⟩⟩
theorem RowI.form {k : IntKind} {e : TypeId} {v : Value} {l : List Int} {s : Slot} (h : RowI k e v l s) (hl : 0 < l.length) :
    ∃ r cap junk, v = .slice (some ⟨r, 0, none⟩) l.length cap ∧ s = some (r, .cells (ints k l ++ junk).toArray e (0, 0)) ∧ l.length ≤ cap := by
  obtain ⟨_, ⟨_, hn, _⟩ | ⟨r, cap, junk, h1, h2, h3, _⟩⟩ := h
  · omega
  · exact ⟨r, cap, junk, h1, h2, h3⟩
theorem ints_app_at {k : IntKind} {l : List Int} {junk : List Value} {j : Nat} (hj : j < l.length) : (ints k l ++ junk)[j]? = some (.int k (l.getD j 0)) := by
  rw [List.getElem?_append_left (by rw [ints_length]; exact hj), ints_at, List.getElem?_eq_getElem hj]
  simp [List.getD_eq_getElem?_getD, List.getElem?_eq_getElem hj]
theorem ints_app_set {k : IntKind} {l : List Int} {junk : List Value} {j : Nat} {x : Int} (hj : j < l.length) : (ints k l ++ junk).set j (.int k x) = ints k (l.set j x) ++ junk := by
  rw [List.set_append_left _ _ (by rw [ints_length]; exact hj), ints_set]
theorem SlI.row {Γ : Ctx} {L : Hp} {k : IntKind} {xs : List Int} {junk : List Value} {b n c : Nat} {e : TypeId} {fr : Nat × Nat} (i : Nat) (hL : L[i]? = some (some (b, .cells (ints k xs ++ junk).toArray e fr))) (hn : n = xs.length) (hc : n ≤ c) :
    SlI k (Cell Γ L) (.slice (some ⟨b, 0, none⟩) n c) xs := by
  subst hn
  refine ⟨_, c, rfl, hc, fun j x hj => ⟨_, rfl, ?_⟩⟩
  show Cell Γ L _ _
  rw [Nat.mul_one, Addr.add_lit, Nat.zero_add]
  have hjl := (List.getElem?_eq_some_iff.1 hj).1
  exact Cell.own i hL (by simp only [List.getElem?_toArray]; rw [ints_app_at hjl]; simp [List.getD_eq_getElem?_getD, hj])
/-- append(v, x). -/
theorem YAppend.int1 {Γ : Ctx} {L : Hp} {k : IntKind} {ty e by_ i b : Nat} {z : List Value} {v : Value} {l : List Int} {x : Int} {s : Slot} {fr : Nat × Nat} {K : Value → Hp → Prop}
    (hel : elS Γ.P ty = some (e, 1, by_)) (hz : zr Γ.P e = some z) (hzl : z.length = 1) (hL : L[i]? = some s) (hr : RowI k e v l s)
    (hb : (l.length + 1) * by_ ≤ 140737488355328) (hb0 : 0 < by_) (hK : ∀ v' s', RowI k e v' (l ++ [x]) s' → K v' (some (b, .cells #[.int k x] e fr) :: L.set i s')) :
    YAppend Γ ty ty v (.slice (some ⟨b, 0, none⟩) 1 1) (some (b, .cells #[.int k x] e fr) :: L) K := by
  refine YAppend.row (i := i + 1) (ys := [.int k x]) (m := 1) hel hz hzl (by simpa using hL) hr (SrcV.lit (ys := [.int k x]) (by rw [hel]; rfl) rfl rfl) rfl hb hb0 fun v' s' hr' => ?_
  have := hK v' s' (by
    show Row e 1 v' (l ++ [x]).length (ints k (l ++ [x])) s'
    rw [ints_app, List.length_append]
    exact hr')
  simpa using this
/-- append(v, xs..). -/
theorem YAppend.ints {Γ : Ctx} {L : Hp} {k : IntKind} {ty e by_ i : Nat} {z : List Value} {v x : Value} {l m : List Int} {s : Slot} {K : Value → Hp → Prop}
    (hel : elS Γ.P ty = some (e, 1, by_)) (hz : zr Γ.P e = some z) (hzl : z.length = 1) (hL : L[i]? = some s) (hr : RowI k e v l s) (hx : SlI k (Cell Γ L) x m)
    (hb : (l.length + m.length) * by_ ≤ 140737488355328) (hb0 : 0 < by_) (hK : ∀ v' s', RowI k e v' (l ++ m) s' → K v' (L.set i s')) : YAppend Γ ty ty v x L K := by
  obtain ⟨A, c, rfl, hc, hA⟩ := hx
  refine YAppend.row (i := i) (ys := SX.ints k m) (m := m.length) hel hz hzl hL hr ?_ (by rw [ints_length, Nat.mul_one]) hb hb0 fun v' s' hr' => hK v' s' (by
    show Row e 1 v' (l ++ m).length (SX.ints k (l ++ m)) s'
    rw [ints_app, List.length_append]
    exact hr')
  cases hm : m with
  | nil =>
    cases A with
    | none => exact SrcV.nil (by rw [hel]; rfl)
    | some a => exact SrcV.slice (by rw [hel]; rfl) rfl (fun j u hj => by simp [SX.ints] at hj) rfl
  | cons x0 m' =>
    obtain ⟨a, rfl, _⟩ := hA 0 x0 (by rw [hm]; rfl)
    rw [← hm]
    refine SrcV.slice (by rw [hel]; rfl) (by rw [ints_length, Nat.mul_one]) (fun j u hj => ?_) (ints_oneB k m)
    rw [ints_at] at hj
    obtain ⟨x, hx, rfl⟩ := Option.map_eq_some_iff.1 hj
    obtain ⟨a', ha', hc'⟩ := hA j x hx
    cases ha'
    simpa [RInt] using hc'
/-- Numbers as a text's bytes. -/
def txt (l : List Int) : ByteArray := ⟨(l.map fun n => UInt8.ofNat n.toNat).toArray⟩
def Byte (l : List Int) : Prop := ∀ x ∈ l, 0 ≤ x ∧ x ≤ 255
theorem txt_size (l : List Int) : (txt l).size = l.length := by simp [txt, ByteArray.size]
theorem byte_back {x : Int} (h : 0 ≤ x ∧ x ≤ 255) : ((UInt8.ofNat x.toNat).toNat : Int) = x := by
  have : (UInt8.ofNat x.toNat).toNat = x.toNat := by simp; omega
  omega
/-- string(v). -/
theorem conv_row {Γ : Ctx} {L : Hp} {s d e : TypeId} {x : Value} {l : List Int} {K : Value → Prop} {D : Prop} (hs : Γ.P.underlying s = some (.slice e)) (hd : Γ.P.underlying d = some .string) (he : Γ.P.underlying e = some (.int .u8))
    (hx : SlI .u8 (Cell Γ L) x l) (hb : Byte l) (hK : K (.string (txt l))) : convVC Γ s d x L K D := by
  obtain ⟨A, c, rfl, hc, hA⟩ := hx
  cases A with
  | none =>
    have : l = [] := by
      cases l with
      | nil => rfl
      | cons x l => obtain ⟨a, ha, _⟩ := hA 0 x rfl; cases ha
    subst this
    rw [conv_nil, hs, hd]
    exact ⟨he, hK⟩
  | some a =>
    rw [conv_slice, hs, hd]
    refine ⟨he, l.map (fun n : Int => UInt8.ofNat n.toNat), by simp, fun j h => ?_, hK⟩
    have hj : j < l.length := by simpa using h
    obtain ⟨a', ha', hc'⟩ := hA j l[j] (List.getElem?_eq_getElem hj)
    cases ha'
    have hb' := hb l[j] (List.getElem_mem hj)
    simp only [List.getElem_map, byte_back hb']
    simpa [RInt] using hc'
theorem cv_row {Γ : Ctx} {L : Hp} {s d e : TypeId} {x : Value} {l : List Int} {K : Value → Prop} {D D1 : Prop} {K2 : Value → Hp → Prop} (hs : Γ.P.underlying s = some (.slice e)) (hd : Γ.P.underlying d = some .string) (he : Γ.P.underlying e = some (.int .u8))
    (hx : SlI .u8 (Cell Γ L) x l) (hb : Byte l) (hK : K (.string (txt l))) : cvVC Γ s d x L K2 D1 (convVC Γ s d x L K D) := by
  have h := conv_row (D := D) hs hd he hx hb hK
  obtain ⟨A, c, rfl, hc, hA⟩ := hx
  exact h
theorem mapM_range {β : Type} {f : Nat → Option β} : ∀ {n : Nat} {g : List β}, g.length = n → (∀ i, i < n → f i = g[i]?) → (List.range n).mapM f = some g := by
  intro n
  induction n with
  | zero => intro g hg _; cases g with | nil => rfl | cons _ _ => cases hg
  | succ n ih =>
    intro g hg h
    have hl : n < g.length := by omega
    have h1 : (g.take n).length = n := by rw [List.length_take]; omega
    have h2 := ih h1 fun i hi => by rw [h i (by omega), List.getElem?_take, if_pos hi]
    have h3 : f n = some g[n] := by rw [h n (by omega), List.getElem?_eq_getElem hl]
    rw [List.range_succ, List.mapM_append, h2]
    simp only [List.mapM_cons, List.mapM_nil, h3, Option.pure_def, Option.bind_eq_bind, Option.bind_some]
    rw [List.take_append_getElem hl, List.take_of_length_le (by omega)]
/-- What '==' reads of an array of whole numbers. -/
theorem keyLits_arr {P : Program} {t e n d : Nat} {k : IntKind} {xs : List Int} (hu : P.underlying t = some (.array n e)) (he : P.underlying e = some (.int k)) (hc : P.cellsOf e = 1) (ht : P.cellsOf t = n) (hl : xs.length = n)
    (hw : ∀ x ∈ xs, (Lit.int k x).wf = true) : P.keyLits (d + 2) t (ints k xs) = some (xs.map fun x => .int k x) := by
  simp only [Program.keyLits, hu, ints_length, hl, ht, if_true, hc]
  rw [mapM_range (g := xs.map fun x => [Lit.int k x]) (by simpa using hl) (fun i hi => by
    have hx : xs[i]? = some xs[i] := List.getElem?_eq_getElem (by omega)
    have h1 : ((ints k xs).drop (i * 1)).take 1 = [.int k xs[i]] := by
      rw [Nat.mul_one, List.take_one, List.head?_drop, ints_at, hx]
      rfl
    rw [h1, he]
    simp [hx, hw xs[i] (List.getElem_mem (by omega))])]
  have hfl : ∀ l : List Int, (l.map fun x => [Lit.int k x]).flatten = l.map fun x => Lit.int k x := fun l => by
    induction l with
    | nil => rfl
    | cons x l ih => rw [List.map_cons, List.flatten_cons, ih]; rfl
  rw [Option.map_some, hfl]
theorem lits_inj {k : IntKind} {xs ys : List Int} : (xs.map fun x => Lit.int k x) = (ys.map fun x => Lit.int k x) ↔ xs = ys := by
  constructor
  · intro h
    have := congrArg (List.map fun l => match l with | Lit.int _ n => n | _ => 0) h
    simpa [List.map_map, Function.comp_def] using this
  · rintro rfl; rfl
/-- A text's bytes as numbers. -/
def nums8 (s : ByteArray) : List Int := s.data.toList.map fun b => (b.toNat : Int)
theorem nums8_length (s : ByteArray) : (nums8 s).length = s.size := by simp [nums8]
theorem nums8_byte (s : ByteArray) : Byte (nums8 s) := by
  intro x hx
  obtain ⟨b, _, rfl⟩ := List.mem_map.1 hx
  have := b.toNat_lt
  omega
theorem txt_nums8 (s : ByteArray) : txt (nums8 s) = s := by
  cases s with
  | mk d =>
    simp only [txt, nums8, List.map_map]
    congr 1
    apply Array.ext'
    simp only
    conv => rhs; rw [← List.map_id d.toList]
    exact List.map_congr_left fun x hx => by simp
theorem nums8_txt {l : List Int} (h : Byte l) : nums8 (txt l) = l := by
  simp only [nums8, txt, List.map_map]
  conv => rhs; rw [← List.map_id l]
  exact List.map_congr_left fun x hx => byte_back (h x hx)
theorem txt_inj {l m : List Int} (hl : Byte l) (hm : Byte m) (h : txt l = txt m) : l = m := by rw [← nums8_txt hl, h, nums8_txt hm]
theorem index_nums8 {s : ByteArray} {i : Nat} (h : i < s.size) : ∃ b : UInt8, s.data.toList[i]? = some b ∧ (nums8 s)[i]? = some (b.toNat : Int) := by
  have : i < s.data.toList.length := by simpa using h
  exact ⟨_, List.getElem?_eq_getElem this, by simp [nums8, List.getElem?_eq_getElem this]⟩
end Go.SX
