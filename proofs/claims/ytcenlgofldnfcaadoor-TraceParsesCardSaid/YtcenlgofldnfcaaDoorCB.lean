/- A part of a proof: contracts and plain facts that it stands on. -/
import Derived.Test.YtcenlgofldnfcaaDoorCA
import Derived.HandedShaped
import Derived.Scope
import Derived.Defers
import Derived.Recover
import Derived.Shelf.Strings.Builder1
import Derived.Shelf.Strings.Builder2
import Derived.Shelf.Strings.OnBuilder
import Derived.Shelf.Strings.BuilderF
import Derived.Shelf.Strings.BuilderK
import Derived.Shelf.Strings.Builder2Cap
import Derived.Shelf.Strings.Search1
import Derived.Shelf.Strings.Search2
import Derived.Shelf.Strings.Search3
import Derived.Shelf.Strings.Cut
import Derived.Shelf.Strings.Count
import Derived.Shelf.LaysM
import Derived.Shelf.Strings.Shaped
import Derived.Shelf.Strings.Prefix
import Derived.Shelf.Strings.Split
import Derived.Shelf.Strings.SplitShaped
import Derived.Shelf.Unicode.DecodeSlow
import Derived.Shelf.Strings.BuilderCap
import Derived.Test.YtcenlgofldnfcaaDoorProg
import Derived.Lib.Builder
import Derived.Laws.Externs
set_option linter.unusedVariables false
set_option linter.unusedSimpArgs false
/-! The words of the walk, so said that what follows is looked at once only. -/
universe u
namespace Go.SX
open Go.RowKit
abbrev Dm (_ : Prop) : Type := Unit
def dm (p : Prop) : Dm p := ()
/-- What is not looked at before it is asked for. -/
def stK (p : Prop) (_ : Dm p) : Prop := p
theorem stI {p : Prop} {x : Dm p} (h : p) : stK p x := h
theorem stK_e {p : Prop} {x : Dm p} : stK p x = p := Classical.byContradiction fun h => h rfl
abbrev st (p : Prop) : Prop := stK p (dm p)
/-- What an option's value brings. -/
def oM {α : Type} (o : Option α) (s : α → Prop) (n : Prop) : Prop := match o with | some a => s a | none => n
theorem oM_some {α : Type} (a : α) (s : α → Prop) (n : Prop) : oM (some a) s n = s a := rfl
theorem oM_none {α : Type} (s : α → Prop) (n : Prop) : oM none s n = n := rfl
def gB (v : Value) (want : Bool) (Y N F : Prop) : Prop := match v with | .bool b => if b = want then Y else N | _ => F
theorem gB_bool (b want : Bool) (Y N F : Prop) : gB (.bool b) want Y N F = if b = want then Y else N := rfl
def strD (o : Option TypeDesc) (Y D : Prop) : Prop := match o with | some .string => Y | _ => D
theorem strD_string (Y D : Prop) : strD (some .string) Y D = Y := rfl
def boxVC (v : Value) (t : TypeId) (L : Hp) (K : Value → Hp → Prop) : Prop := ∀ b, K (.pointer (some ⟨b, 0, none⟩)) (some (b, .cells v.cells t (0, 0)) :: L)
theorem box_e (v : Value) (t : TypeId) (L : Hp) (K : Value → Hp → Prop) : boxVC v t L K = ∀ b, stK (K (.pointer (some ⟨b, 0, none⟩)) (some (b, .cells v.cells t (0, 0)) :: L)) () := rfl
def bsVC (Γ : Ctx) (t : TypeId) (len : Nat) (parts : List (Nat × Value)) (size : Nat) (L : Hp) (K : Value → Hp → Prop) (D : Prop) : Prop :=
  oM (elS Γ.P t) (fun p => (inOrd p.2.1 0 parts = true ∧ size = len ∧ len * p.2.1 ≤ 16777216 ∧ (zr Γ.P p.1).map List.length = some p.2.1) ∧ ∀ b, K (.slice (some ⟨b, 0, none⟩) len len) (some (b, .cells (catV parts).toArray p.1 (0, 0)) :: L)) D
theorem bs_e (Γ : Ctx) (t : TypeId) (len : Nat) (parts : List (Nat × Value)) (size : Nat) (L : Hp) (K : Value → Hp → Prop) (D : Prop) : bsVC Γ t len parts size L K D =
  oM (elS Γ.P t) (fun p => (inOrd p.2.1 0 parts = true ∧ size = len ∧ len * p.2.1 ≤ 16777216 ∧ (zr Γ.P p.1).map List.length = some p.2.1) ∧ ∀ b, stK (K (.slice (some ⟨b, 0, none⟩) len len) (some (b, .cells (catV parts).toArray p.1 (0, 0)) :: L)) ()) D := rfl
def cvD (u : TypeDesc) (P : Program) (str : ByteArray) (L : Hp) (K2 : Value → Hp → Prop) (D : Prop) : Prop := match u with
  | .slice e => P.underlying e = some (.int .u8) ∧ ∀ b cap, str.size ≤ cap → K2 (.slice (some ⟨b, 0, none⟩) str.size cap) (some (b, .cells (bytesV str ++ List.replicate (cap - str.size) (Value.int .u8 0)).toArray e (cap, cap + 1)) :: L)
  | .string => K2 (.string str) L
  | _ => D
theorem cvD_slice (e : TypeId) (P : Program) (str : ByteArray) (L : Hp) (K2 : Value → Hp → Prop) (D : Prop) : cvD (.slice e) P str L K2 D = (P.underlying e = some (.int .u8) ∧ ∀ b cap, str.size ≤ cap → stK (K2 (.slice (some ⟨b, 0, none⟩) str.size cap) (some (b, .cells (bytesV str ++ List.replicate (cap - str.size) (Value.int .u8 0)).toArray e (cap, cap + 1)) :: L)) ()) := rfl
theorem cvD_string (P : Program) (str : ByteArray) (L : Hp) (K2 : Value → Hp → Prop) (D : Prop) : cvD .string P str L K2 D = K2 (.string str) L := rfl
def evP (T : Env) : List (Nat × Operand) → List (Nat × Value)
  | [] => []
  | p :: r => (p.1, ev T p.2) :: evP T r
theorem evP_map (T : Env) (l : List (Nat × Operand)) : (l.map fun p => (p.1, ev T p.2)) = evP T l := by
  induction l with
  | nil => rfl
  | cons p r ih => rw [List.map_cons, ih]; rfl
theorem evP_nil (T : Env) : evP T [] = [] := rfl
theorem evP_cons (T : Env) (p : Nat × Operand) (r : List (Nat × Operand)) : evP T (p :: r) = (p.1, ev T p.2) :: evP T r := rfl
def fillK (place : Nat → Option (Nat × Nat)) (cells : List Value) (parts : List (Nat × Value)) (K : List Value → Prop) (D : Prop) : Prop := match fillL place cells parts with | some cs => K cs | none => D
theorem fillK_nil (place : Nat → Option (Nat × Nat)) (cells : List Value) (K : List Value → Prop) (D : Prop) : fillK place cells [] K D = K cells := rfl
theorem fillK_cons (place : Nat → Option (Nat × Nat)) (cells : List Value) (i : Nat) (v : Value) (rest : List (Nat × Value)) (K : List Value → Prop) (D : Prop) :
    fillK place cells ((i, v) :: rest) K D = oM (place i) (fun p => if v.cells.size = p.2 ∧ p.1 + p.2 ≤ cells.length then fillK place (setN cells p.1 v.cells.toList) rest K D else D) D := by
  unfold fillK oM
  rw [fillL]
  cases place i with
  | none => rfl
  | some p =>
    obtain ⟨off, size⟩ := p
    dsimp only
    by_cases h : v.cells.size = size ∧ off + size ≤ cells.length
    · rw [if_pos h, if_pos h]
    · rw [if_neg h, if_neg h]
def intD (o : TypeDesc) (K : IntKind → Prop) (D : Prop) : Prop := match o with | .int k => K k | _ => D
theorem intD_int (k : IntKind) (K : IntKind → Prop) (D : Prop) : intD (.int k) K D = K k := rfl
section
variable {Γ : Ctx} {P : Program} {n : Nat} {ops : Array Oper} {T : Env} {L : Hp} {t s d : TypeId} {k k' : IntKind} {a b : Int} {D : Prop} {ad : Addr}
variable {D2 : Prop} {K : Value → Prop} {K2 : Value → Hp → Prop} {K3 : Hp → Prop} {yes no : Env → Prop} {dst : Option Tmp} {ty : TypeId} {ps : String} {af : Array Edge} {g : Option (Nat × Bool)}
theorem guard_none : guardVC ops none T yes no = yes T := rfl
theorem guard_some (j : Nat) (want : Bool) : guardVC ops (some (j, want)) T yes no = oM ((ops.toList[j]?).bind (·.dst)) (fun d => gB (T d) want (yes (upd T d (.bool want))) (no (upd T d (.bool (!want)))) (no T)) (no T) := by
  unfold guardVC oM gB
  dsimp only
  cases (ops.toList[j]?).bind (·.dst) <;> rfl
theorem put_none (v : Value) (k : Env → Prop) : putVC n none v T k = k T := rfl
theorem put_some (d : Nat) (v : Value) (k : Env → Prop) : putVC n (some d) v T k = (d < n ∧ k (upd T d v)) := rfl
theorem plan_nil {G : Hp → Hp} {Q : Env → Hp → Prop} : VCplan Γ n ops G [] Q T L = Q T L := rfl
theorem plan_q {G : Hp → Hp} {Q : Env → Hp → Prop} (i : Nat) (r : List (Nat × Kd)) : VCplan Γ n ops G ((i, .q) :: r) Q T L = oM (ops.toList[i]?) (fun o => guardVC ops o.guard T (fun T => VQ Γ o T (G L) (fun v => putVC n o.dst v T (fun T => VCplan Γ n ops G r Q T L))) (fun T => putVC n o.dst undef T (fun T => VCplan Γ n ops G r Q T L))) False := by
  unfold oM; rw [VCplan]; cases ops.toList[i]? <;> rfl
theorem plan_c {G : Hp → Hp} {Q : Env → Hp → Prop} (i : Nat) (r : List (Nat × Kd)) : VCplan Γ n ops G ((i, .c) :: r) Q T L = oM (ops.toList[i]?) (fun o => guardVC ops o.guard T (fun T => ∃ v, (∀ L0, Less L0 (G L) → VC Γ o T L0 (fun u L1 => u = v ∧ L1 = L0)) ∧ putVC n o.dst v T (fun T => VCplan Γ n ops G r Q T L)) (fun T => putVC n o.dst undef T (fun T => VCplan Γ n ops G r Q T L))) False := by
  unfold oM; rw [VCplan]; cases ops.toList[i]? <;> rfl
theorem plan_e {G : Hp → Hp} {Q : Env → Hp → Prop} (i : Nat) (r : List (Nat × Kd)) : VCplan Γ n ops G ((i, .e) :: r) Q T L = oM (ops.toList[i]?) (fun o => guardVC ops o.guard T (fun T => VC Γ o T L (fun v L' => putVC n o.dst v T (fun T => (Less L' (G L') ∧ Less (G L') (G L)) ∧ VCplan Γ n ops G r Q T L'))) (fun T => putVC n o.dst undef T (fun T => VCplan Γ n ops G r Q T L))) False := by
  unfold oM; rw [VCplan]; cases ops.toList[i]? <;> rfl
theorem plan_t {G : Hp → Hp} {Q : Env → Hp → Prop} (i : Nat) (r : List (Nat × Kd)) : VCplan Γ n ops G ((i, .t) :: r) Q T L = oM (ops.toList[i]?) (fun o => guardVC ops o.guard T (fun T => VC Γ o T L (fun v L' => putVC n o.dst v T (fun T => VCplan Γ n ops G r Q T L'))) (fun T => putVC n o.dst undef T (fun T => VCplan Γ n ops G r Q T L))) False := by
  unfold oM; rw [VCplan]; cases ops.toList[i]? <;> rfl
/-! one operation, quiet -/
theorem VQ_move (x : Operand) : VQ Γ ⟨dst, .move x, ty, ps, af, g⟩ T L K = K (ev T x) := rfl
theorem VC_move (x : Operand) : VC Γ ⟨dst, .move x, ty, ps, af, g⟩ T L K2 = (fun v => K2 v L) (ev T x) := rfl
theorem VQ_assign (x : Operand) : VQ Γ ⟨dst, .assign x, ty, ps, af, g⟩ T L K = K (ev T x) := rfl
theorem VC_assign (x : Operand) : VC Γ ⟨dst, .assign x, ty, ps, af, g⟩ T L K2 = (fun v => K2 v L) (ev T x) := rfl
theorem VQ_pick (c x y : Operand) : VQ Γ ⟨dst, .pick c x y, ty, ps, af, g⟩ T L K = pickVC (ev T c) (ev T x) (ev T y) K False := rfl
theorem VC_pick (c x y : Operand) : VC Γ ⟨dst, .pick c x y, ty, ps, af, g⟩ T L K2 = pickVC (ev T c) (ev T x) (ev T y) (fun v => K2 v L) False := rfl
theorem VQ_load (e : TypeId) (x : Operand) : VQ Γ ⟨dst, .load e x, ty, ps, af, g⟩ T L K = ldVC Γ e (ev T x) L K False := rfl
theorem VC_load (e : TypeId) (x : Operand) : VC Γ ⟨dst, .load e x, ty, ps, af, g⟩ T L K2 = ldVC Γ e (ev T x) L (fun v => K2 v L) False := rfl
theorem VQ_nilCheck (x : Operand) : VQ Γ ⟨dst, .nilCheck x, ty, ps, af, g⟩ T L K = nilVC (ev T x) K False := rfl
theorem VC_nilCheck (x : Operand) : VC Γ ⟨dst, .nilCheck x, ty, ps, af, g⟩ T L K2 = nilVC (ev T x) (fun v => K2 v L) False := rfl
theorem VQ_unOp (op : UnOp) (e : TypeId) (x : Operand) : VQ Γ ⟨dst, .unOp op e x, ty, ps, af, g⟩ T L K = unVC op (ev T x) K False := rfl
theorem VC_unOp (op : UnOp) (e : TypeId) (x : Operand) : VC Γ ⟨dst, .unOp op e x, ty, ps, af, g⟩ T L K2 = unVC op (ev T x) (fun v => K2 v L) False := rfl
theorem VQ_binOp (op : BinOp) (e e2 : TypeId) (x y : Operand) : VQ Γ ⟨dst, .binOp op e x y e2, ty, ps, af, g⟩ T L K = binVC Γ.P op e (ev T x) (ev T y) K (YieldsQ Γ ⟨dst, .binOp op e x y e2, ty, ps, af, g⟩ T L K) := rfl
theorem VC_binOp (op : BinOp) (e e2 : TypeId) (x y : Operand) : VC Γ ⟨dst, .binOp op e x y e2, ty, ps, af, g⟩ T L K2 = binVC Γ.P op e (ev T x) (ev T y) (fun v => K2 v L) (YieldsQ Γ ⟨dst, .binOp op e x y e2, ty, ps, af, g⟩ T L (fun v => K2 v L)) := rfl
theorem VQ_makeFunc (fn : Fn) (x y : Array Operand) : VQ Γ ⟨dst, .makeFunc fn x y, ty, ps, af, g⟩ T L K = K (.func fn (x.map (ev T)) (y.map (ev T))) := rfl
theorem VC_makeFunc (fn : Fn) (x y : Array Operand) : VC Γ ⟨dst, .makeFunc fn x y, ty, ps, af, g⟩ T L K2 = (fun v => K2 v L) (.func fn (x.map (ev T)) (y.map (ev T))) := rfl
theorem VQ_fieldAddr (e : TypeId) (x : Operand) (f : Nat) : VQ Γ ⟨dst, .fieldAddr e x f, ty, ps, af, g⟩ T L K = faVC Γ.P e (ev T x) f K False := rfl
theorem VC_fieldAddr (e : TypeId) (x : Operand) (f : Nat) : VC Γ ⟨dst, .fieldAddr e x f, ty, ps, af, g⟩ T L K2 = faVC Γ.P e (ev T x) f (fun v => K2 v L) False := rfl
theorem VQ_field (e : TypeId) (x : Operand) (f : Nat) : VQ Γ ⟨dst, .field e x f, ty, ps, af, g⟩ T L K = fieldVC Γ.P e (ev T x) f K False := rfl
theorem VC_field (e : TypeId) (x : Operand) (f : Nat) : VC Γ ⟨dst, .field e x f, ty, ps, af, g⟩ T L K2 = fieldVC Γ.P e (ev T x) f (fun v => K2 v L) False := rfl
theorem VQ_indexAddr (e : TypeId) (x y : Operand) : VQ Γ ⟨dst, .indexAddr e x y, ty, ps, af, g⟩ T L K = indexAddrVC Γ.P e (ev T x) (ev T y) K False := rfl
theorem VC_indexAddr (e : TypeId) (x y : Operand) : VC Γ ⟨dst, .indexAddr e x y, ty, ps, af, g⟩ T L K2 = indexAddrVC Γ.P e (ev T x) (ev T y) (fun v => K2 v L) False := rfl
theorem VQ_index (e : TypeId) (x y : Operand) : VQ Γ ⟨dst, .index e x y, ty, ps, af, g⟩ T L K = indexVC Γ.P e (ev T x) (ev T y) K False := rfl
theorem VC_index (e : TypeId) (x y : Operand) : VC Γ ⟨dst, .index e x y, ty, ps, af, g⟩ T L K2 = indexVC Γ.P e (ev T x) (ev T y) (fun v => K2 v L) False := rfl
theorem VQ_slice (e : TypeId) (x : Operand) (lo hi mx : Option Operand) : VQ Γ ⟨dst, .slice e x lo hi mx, ty, ps, af, g⟩ T L K = sliceVC Γ.P e (ev T x) (lo.map (ev T)) (hi.map (ev T)) (mx.map (ev T)) K False := rfl
theorem VC_slice (e : TypeId) (x : Operand) (lo hi mx : Option Operand) : VC Γ ⟨dst, .slice e x lo hi mx, ty, ps, af, g⟩ T L K2 = sliceVC Γ.P e (ev T x) (lo.map (ev T)) (hi.map (ev T)) (mx.map (ev T)) (fun v => K2 v L) False := rfl
theorem VQ_extract (x : Operand) (i : Nat) : VQ Γ ⟨dst, .extract x i, ty, ps, af, g⟩ T L K = extVC (ev T x) i K False := rfl
theorem VC_extract (x : Operand) (i : Nat) : VC Γ ⟨dst, .extract x i, ty, ps, af, g⟩ T L K2 = extVC (ev T x) i (fun v => K2 v L) False := rfl
theorem VQ_build (e : TypeId) (parts : List (Nat × Operand)) : VQ Γ ⟨dst, .build e parts.toArray, ty, ps, af, g⟩ T L K = buildVC Γ.P e (evP T parts) K False := by rw [← evP_map]; rfl
theorem VC_build (e : TypeId) (parts : List (Nat × Operand)) : VC Γ ⟨dst, .build e parts.toArray, ty, ps, af, g⟩ T L K2 = buildVC Γ.P e (evP T parts) (fun v => K2 v L) False := by rw [← evP_map]; rfl
theorem VQ_lookup (e : TypeId) (x y : Operand) (ok : Bool) : VQ Γ ⟨dst, .lookup e x y ok, ty, ps, af, g⟩ T L K = lkVC Γ e (ev T x) (ev T y) ok L K False := rfl
theorem VC_lookup (e : TypeId) (x y : Operand) (ok : Bool) : VC Γ ⟨dst, .lookup e x y ok, ty, ps, af, g⟩ T L K2 = lkVC Γ e (ev T x) (ev T y) ok L (fun v => K2 v L) False := rfl
theorem VQ_len (x : Operand) (e : TypeId) : VQ Γ ⟨dst, .call ⟨.builtin .len, #[x], #[e]⟩, ty, ps, af, g⟩ T L K = lenVC Γ.P e (ev T x) K False := rfl
theorem VC_len (x : Operand) (e : TypeId) : VC Γ ⟨dst, .call ⟨.builtin .len, #[x], #[e]⟩, ty, ps, af, g⟩ T L K2 = lenVC Γ.P e (ev T x) (fun v => K2 v L) False := rfl
theorem VQ_cap (x : Operand) (e : TypeId) : VQ Γ ⟨dst, .call ⟨.builtin .cap, #[x], #[e]⟩, ty, ps, af, g⟩ T L K = capVC Γ.P e (ev T x) K False := rfl
theorem VC_cap (x : Operand) (e : TypeId) : VC Γ ⟨dst, .call ⟨.builtin .cap, #[x], #[e]⟩, ty, ps, af, g⟩ T L K2 = capVC Γ.P e (ev T x) (fun v => K2 v L) False := rfl
theorem VQ_min (x y : Operand) (ts : Array TypeId) : VQ Γ ⟨dst, .call ⟨.builtin .min, #[x, y], ts⟩, ty, ps, af, g⟩ T L K = minVC (ev T x) (ev T y) K False := rfl
theorem VC_min (x y : Operand) (ts : Array TypeId) : VC Γ ⟨dst, .call ⟨.builtin .min, #[x, y], ts⟩, ty, ps, af, g⟩ T L K2 = minVC (ev T x) (ev T y) (fun v => K2 v L) False := rfl
theorem VQ_max (x y : Operand) (ts : Array TypeId) : VQ Γ ⟨dst, .call ⟨.builtin .max, #[x, y], ts⟩, ty, ps, af, g⟩ T L K = maxVC (ev T x) (ev T y) K False := rfl
theorem VC_max (x y : Operand) (ts : Array TypeId) : VC Γ ⟨dst, .call ⟨.builtin .max, #[x, y], ts⟩, ty, ps, af, g⟩ T L K2 = maxVC (ev T x) (ev T y) (fun v => K2 v L) False := rfl
theorem VQ_convert (e e2 : TypeId) (x : Operand) : VQ Γ ⟨dst, .convert e e2 x, ty, ps, af, g⟩ T L K = convVC Γ e e2 (ev T x) L K (YieldsQ Γ ⟨dst, .convert e e2 x, ty, ps, af, g⟩ T L K) := rfl
theorem VQ_call (f : Operand) (as_ : Array Operand) (ts : Array TypeId) : VQ Γ ⟨dst, .call ⟨.value f, as_, ts⟩, ty, ps, af, g⟩ T L K = qcallVC Γ (ev T f) (as_.map (ev T)) L K False := rfl
/-! one operation -/
theorem VC_alloc (e : TypeId) : VC Γ ⟨dst, .alloc e, ty, ps, af, g⟩ T L K2 = oM (zr Γ.P e) (fun z => ∀ b, stK (K2 (.pointer (some ⟨b, 0, none⟩)) (some (b, .cells z.toArray e (0, 0)) :: L)) ()) (Yields Γ ⟨dst, .alloc e, ty, ps, af, g⟩ T L K2) := by
  simp only [stK_e]
  unfold VC oM
  dsimp only
  cases zr Γ.P e <;> rfl
theorem VC_box (e : TypeId) (x : Operand) : VC Γ ⟨dst, .box e x, ty, ps, af, g⟩ T L K2 = boxVC (ev T x) e L K2 := rfl
theorem VC_store (e : TypeId) (x y : Operand) : VC Γ ⟨dst, .store e x y, ty, ps, af, g⟩ T L K2 = stVC Γ e (ev T x) (ev T y) L (K2 undef) False := rfl
theorem VC_buildSlice (e : TypeId) (len : Nat) (parts : List (Nat × Operand)) : VC Γ ⟨dst, .buildSlice e len parts.toArray, ty, ps, af, g⟩ T L K2 = bsVC Γ e len (evP T parts) parts.length L K2 (Yields Γ ⟨dst, .buildSlice e len parts.toArray, ty, ps, af, g⟩ T L K2) := by
  rw [← evP_map]
  unfold VC bsVC oM
  dsimp only
  cases elS Γ.P e <;> simp
theorem VC_makeSlice (e : TypeId) (x y : Operand) : VC Γ ⟨dst, .makeSlice e x y, ty, ps, af, g⟩ T L K2 = mkVC Γ e (ev T x) (ev T y) L K2 False := rfl
theorem VC_range (e : TypeId) (x : Operand) : VC Γ ⟨dst, .range e x, ty, ps, af, g⟩ T L K2 = rgVC Γ e (ev T x) L K2 False := rfl
theorem VC_next (x : Operand) : VC Γ ⟨dst, .next x true, ty, ps, af, g⟩ T L K2 = nxVC (ev T x) L K2 False := rfl
theorem VC_makeMap (e : TypeId) : VC Γ ⟨dst, .makeMap e none, ty, ps, af, g⟩ T L K2 = ∀ b, stK (K2 (.map (some b)) (some (b, .map #[] 0) :: L)) () := rfl
theorem VC_mapUpdate (e : TypeId) (m x y : Operand) : VC Γ ⟨dst, .mapUpdate e m x y, ty, ps, af, g⟩ T L K2 = muVC Γ e (ev T m) (ev T x) (ev T y) L (K2 undef) False := rfl
theorem VC_insert (e : TypeId) (m x y : Operand) : VC Γ ⟨dst, .insert e m x y, ty, ps, af, g⟩ T L K2 = muVC Γ e (ev T m) (ev T x) (ev T y) L (K2 undef) False := rfl
theorem VC_convert (e e2 : TypeId) (x : Operand) : VC Γ ⟨dst, .convert e e2 x, ty, ps, af, g⟩ T L K2 = cvVC Γ e e2 (ev T x) L K2 False (VQ Γ ⟨dst, .convert e e2 x, ty, ps, af, g⟩ T L (fun v => K2 v L)) := rfl
theorem VC_append (x y : Operand) (tx ty2 : TypeId) : VC Γ ⟨dst, .call ⟨.builtin .append, #[x, y], #[tx, ty2]⟩, ty, ps, af, g⟩ T L K2 = YAppend Γ tx ty2 (ev T x) (ev T y) L (fun v L => stK (K2 v L) ()) := rfl
theorem VC_copy (x y : Operand) (tx ty2 : TypeId) : VC Γ ⟨dst, .call ⟨.builtin .copy, #[x, y], #[tx, ty2]⟩, ty, ps, af, g⟩ T L K2 = YCopy Γ tx ty2 (ev T x) (ev T y) L (fun v L => stK (K2 v L) ()) := rfl
theorem VC_call (f : Operand) (as_ : Array Operand) (ts : Array TypeId) : VC Γ ⟨dst, .call ⟨.value f, as_, ts⟩, ty, ps, af, g⟩ T L K2 = callVC Γ (ev T f) (as_.map (ev T)) L K2 False := rfl
/-! the parts -/
theorem loadVC_e : loadVC Γ t L ad K = oM (szA Γ.P t) (fun p => if p.2 = true then loadN Γ L ad 0 p.1 [] (fun v => stK (K v) ()) else ∃ v, Cell Γ L ad v ∧ stK (K v) ()) False := by
  simp only [stK_e]
  unfold loadVC oM
  split <;> rename_i h <;> rw [h] <;> simp
theorem part_e (ag : Bool) (sz : Nat) (cs : Array Value) (off : Nat) : partVC ag sz cs off K = if ag = true then K (.agg (cs.toList.drop off |>.take sz).toArray) else oM (cs.toList[off]?) K False := by
  unfold partVC oM
  cases ag
  · cases h : cs.toList[off]? <;> simp
  · rfl
theorem fa_e (f : Nat) : faVC P t (.pointer (some ad)) f K D = oM (lay P t) (fun l => oM l[f]? (fun p => p.2.1 ≠ 0 ∧ K (.pointer (some (ad.add p.1)))) D) D := by
  unfold faVC oM
  cases lay P t with
  | none => rfl
  | some l => cases h : l[f]? <;> simp [h]
theorem field_e (cs : Array Value) (f : Nat) : fieldVC P t (.agg cs) f K D = oM (lay P t) (fun l => oM l[f]? (fun p => partVC p.2.2 p.2.1 cs p.1 K) D) D := by
  unfold fieldVC oM
  cases lay P t with
  | none => rfl
  | some l => cases h : l[f]? <;> simp [h]
theorem index_e (cs : Array Value) : indexVC P t (.agg cs) (.int k a) K D = oM (elA P t) (fun p => (0 ≤ a ∧ a < p.1) ∧ partVC p.2.2.2 p.2.2.1 cs (a.toNat * p.2.2.1) K) D := by
  unfold indexVC oM
  cases elA P t <;> rfl
theorem ext_e (vs : Array Value) (i : Nat) : extVC (.tuple vs) i K D = oM (vs.toList[i]?) K False := by
  unfold extVC oM
  dsimp only
  cases vs.toList[i]? <;> simp
theorem ia_some (len cap : Nat) : indexAddrVC P t (.slice (some ad) len cap) (.int k a) K D = oM (elS P t) (fun p => (0 ≤ a ∧ a < len) ∧ K (.pointer (some (ad.add (a.toNat * p.2.1))))) D := by
  unfold indexAddrVC oM
  cases elS P t <;> simp
theorem ia_any (base : Option Addr) (len cap : Nat) : indexAddrVC P t (.slice base len cap) (.int k a) K D = oM (elS P t) (fun p => (0 ≤ a ∧ a < len) ∧ ∃ ad, base = some ad ∧ stK (K (.pointer (some (ad.add (a.toNat * p.2.1))))) ()) D := by
  simp only [stK_e]
  unfold indexAddrVC oM
  cases elS P t <;> rfl
theorem ia_ptr : indexAddrVC P t (.pointer (some ad)) (.int k a) K D = oM (elA P t) (fun p => (0 ≤ a ∧ a < p.1) ∧ K (.pointer (some (ad.add (a.toNat * p.2.2.1))))) D := by
  unfold indexAddrVC oM
  cases elA P t <;> rfl
theorem conv_e : convVC Γ s d (.int k a) L K D = oM (Γ.P.underlying s) (fun _ => oM (Γ.P.underlying d) (fun u => intD u (fun k => K (.int k (k.wrap a))) D) D) D := by
  unfold convVC oM intD
  cases Γ.P.underlying s with
  | none => rfl
  | some x => cases hd : Γ.P.underlying d with
    | none => rfl
    | some y => cases y <;> rfl
theorem sl_str (st : ByteArray) (lo hi : Option Value) : sliceVC P t (.string st) lo hi none K D = oM (optI 0 lo) (fun l => oM (optI st.size hi) (fun h => strD (P.underlying t) ((0 ≤ l ∧ l ≤ h ∧ h ≤ st.size) ∧ K (.string (st.extract l.toNat h.toNat))) D) D) D := by
  unfold sliceVC oM strD
  dsimp only
  cases h1 : P.underlying t with
  | none => cases optI 0 lo <;> cases optI (↑st.size) hi <;> rfl
  | some u => cases u <;> cases optI 0 lo <;> cases optI (↑st.size) hi <;> rfl
theorem sl_sl (base : Option Addr) (len cap : Nat) (lo hi : Option Value) : sliceVC P t (.slice base len cap) lo hi none K D = oM (elS P t) (fun p => oM (optI 0 lo) (fun l => oM (optI len hi) (fun h => ((hi.isSome = true ∨ len ≤ cap) ∧ 0 ≤ l ∧ l ≤ h ∧ h ≤ cap) ∧ K (.slice (cutA base p.2.1 cap l.toNat) (h.toNat - l.toNat) (cap - l.toNat))) D) D) D := by
  unfold sliceVC oM
  dsimp only
  cases elS P t <;> cases optI 0 lo <;> cases optI (↑len) hi <;> rfl
theorem sl_arr0 (lo : Option Value) : sliceVC P t (.pointer (some ad)) lo none none K D = oM (elA P t) (fun p => oM (optI 0 lo) (fun l => (0 ≤ l ∧ l ≤ p.1) ∧ K (.slice (cutA (some ad) p.2.2.1 p.1 l.toNat) (p.1 - l.toNat) (p.1 - l.toNat))) D) D := by
  unfold sliceVC oM
  dsimp only
  cases elA P t <;> cases optI 0 lo <;> rfl
theorem sl_arr1 (lo : Option Value) (h : Int) : sliceVC P t (.pointer (some ad)) lo (some (.int k h)) none K D = oM (elA P t) (fun p => oM (optI 0 lo) (fun l => (0 ≤ l ∧ l ≤ h ∧ h ≤ p.1) ∧ K (.slice (cutA (some ad) p.2.2.1 p.1 l.toNat) (h.toNat - l.toNat) (p.1 - l.toNat))) D) D := by
  unfold sliceVC oM
  dsimp only
  cases elA P t <;> cases optI 0 lo <;> rfl
theorem build_e (parts : List (Nat × Value)) : buildVC P t parts K D = oM (lay P t) (fun l => oM (zr P t) (fun z => fillK (placeL l) z parts (fun cs => K (.agg cs.toArray)) D) D) (oM (elA P t) (fun p => oM (zr P t) (fun z => fillK (fun i => some (i * p.2.2.1, p.2.2.1)) z parts (fun cs => K (.agg cs.toArray)) D) D) D) := by
  unfold buildVC oM fillK
  cases h1 : lay P t with
  | none => cases h2 : elA P t with
    | none => cases zr P t <;> rfl
    | some p => cases h3 : zr P t with
      | none => rfl
      | some z => cases h4 : fillL (fun i => some (i * p.2.2.1, p.2.2.1)) z parts <;> simp [h4]
  | some l => cases h3 : zr P t with
    | none => cases h2 : elA P t <;> rfl
    | some z => cases h4 : fillL (placeL l) z parts <;> simp [h4]
theorem mk_e : mkVC Γ t (.int k a) (.int k' b) L K2 D = oM (elS Γ.P t) (fun p => oM (zr Γ.P p.1) (fun z => (0 ≤ a ∧ a ≤ b ∧ b * p.2.2 ≤ 281474976710656 ∧ b ≤ 9223372036854775807 ∧ z.length = p.2.1) ∧ ∀ bk, stK (K2 (.slice (some ⟨bk, 0, none⟩) a.toNat b.toNat) (some (bk, .cells (zerosV z b.toNat).toArray p.1 (0, 0)) :: L)) ()) D) D := by
  simp only [stK_e]
  unfold mkVC oM
  cases h : elS Γ.P t with
  | none => rfl
  | some p => cases h2 : zr Γ.P p.1 <;> simp [h2]
theorem cv_e (s d : TypeId) (str : ByteArray) : cvVC Γ s d (.string str) L K2 D D2 = oM (Γ.P.underlying s) (fun _ => oM (Γ.P.underlying d) (fun u => cvD u Γ.P str L K2 D) D) D := by
  unfold cvVC oM cvD
  cases Γ.P.underlying s with
  | none => rfl
  | some x => cases hd : Γ.P.underlying d with
    | none => rfl
    | some y => cases y <;> rfl
end
section
variable {Γ : Ctx} {P : Program} {n : Nat} {ops : Array Oper} {T : Env} {L : Hp} {t : TypeId} {k : IntKind} {a : Int} {K : Value → Prop} {K2 : Value → Hp → Prop} {K3 : Hp → Prop} {D : Prop} {ad : Addr}
theorem ops_nil {Q : Env → Hp → Prop} : VCops Γ n ops [] Q T L = Q T L := rfl
theorem ops_cons {Q : Env → Hp → Prop} (o : Oper) (r : List Oper) : VCops Γ n ops (o :: r) Q T L = guardVC ops o.guard T (fun T => VC Γ o T L (fun v L => putVC n o.dst v T (fun T => VCops Γ n ops r Q T L))) (fun T => putVC n o.dst undef T (fun T => VCops Γ n ops r Q T L)) := rfl
theorem qops_nil {Q : Env → Prop} : VQops Γ n ops L [] Q T = Q T := rfl
theorem qops_cons {Q : Env → Prop} (o : Oper) (r : List Oper) : VQops Γ n ops L (o :: r) Q T = guardVC ops o.guard T (fun T => VQ Γ o T L (fun v => putVC n o.dst v T (fun T => VQops Γ n ops L r Q T))) (fun T => putVC n o.dst undef T (fun T => VQops Γ n ops L r Q T)) := rfl
theorem ld_e : ldVC Γ t (.pointer (some ad)) L K D = loadVC Γ t L ad K := rfl
theorem st_e (v : Value) : stVC Γ t (.pointer (some ad)) v L K3 D = storeVC Γ t ad v L K3 := rfl
theorem call_e (f : FuncId) (fi ca as_ : Array Value) : callVC Γ (.func (.func f) fi ca) as_ L K2 D = (callable Γ.P f = true ∧ SCall Γ f ((fi ++ as_ ++ ca)) L (fun v L => stK (K2 v L) ())) := rfl
theorem qcall_e (f : FuncId) (fi ca as_ : Array Value) : qcallVC Γ (.func (.func f) fi ca) as_ L K D = (callable Γ.P f = true ∧ ∃ v, SCall Γ f ((fi ++ as_ ++ ca)) L (fun v' L' => v' = v ∧ L' = L) ∧ stK (K v) ()) := rfl
theorem eqla_e {k : TypeId} (x y : Array Value) : binVC P .eql k (.agg x) (.agg y) K D = aggEq P k x y (fun r => stK (K (.bool r)) ()) := rfl
theorem neqa_e {k : TypeId} (x y : Array Value) : binVC P .neq k (.agg x) (.agg y) K D = aggEq P k x y (fun r => stK (K (.bool (!r))) ()) := rfl
theorem rg_e (s : ByteArray) : rgVC Γ t (.string s) L K2 D = (Γ.P.underlying t = some .string ∧ ∀ b, stK (K2 (.pointer (some ⟨b, 0, none⟩)) (some (b, .stringIter s 0) :: L)) ()) := rfl
theorem nx_e (b : Nat) : nxVC (.pointer (some ⟨b, 0, none⟩)) L K2 D = ∃ (i : Nat) (s : ByteArray) (pos : Nat), L[i]? = some (some (b, .stringIter s pos)) ∧
      if pos < s.size then stK (K2 (.tuple #[.bool true, .int .i64 pos, .int .i32 (Utf8.decode s pos).1]) (L.set i (some (b, .stringIter s (pos + (Utf8.decode s pos).2))))) () else stK (K2 (.tuple #[.bool false]) L) () := rfl
theorem mu_e (r : Nat) (x y : Value) : muVC Γ t (.map (some r)) x y L K3 D = ∃ kd z, mapT Γ.P t = some (kd, z) ∧ ∃ (i : Nat) (es : List MapEntry) (ck : Nat), L[i]? = some (some (r, .map es.toArray ck)) ∧ ∃ fr, Instr.findNow kd x es 0 = some fr ∧ stK (K3 (L.set i (some (r, mapPut es ck x y fr)))) () := rfl
theorem istr_e (s : ByteArray) : indexVC P t (.string s) (.int k a) K D = (P.underlying t = some .string ∧ 0 ≤ a ∧ ∃ b : UInt8, s.data.toList[a.toNat]? = some b ∧ stK (K (.int .u8 (b.toNat : Int))) ()) := rfl
theorem store_e {t : TypeId} {v : Value} : storeVC Γ t ad v L K3 = ((szA Γ.P t).map (·.1) = some v.cells.size ∧ oneB v.cells.toList = true ∧ ad.spot = none ∧
  ∃ (i : Nat) (cs : List Value) (t' : TypeId) (fr : Nat × Nat), L[i]? = some (some (ad.block, .cells cs.toArray t' fr)) ∧ ad.off + v.cells.size ≤ cs.length ∧ (ad.off + v.cells.size ≤ fr.1 ∨ fr.2 ≤ ad.off) ∧
    stK (K3 (L.set i (some (ad.block, .cells (setN cs ad.off v.cells.toList).toArray t' fr)))) ()) := rfl
end
section
variable {Γ : Ctx} {n : Nat} {Q : Exit → Env → Hp → Prop} {T : Env} {L : Hp}
/-- Where the operations of a region put what they yield. -/
def Dsts (ops : Array Oper) (ds : List (Option Tmp)) : Prop := ∀ j : Nat, (ops.toList[j]?).bind (fun o : Oper => o.dst) = (ds[j]?).bind id
theorem dsts_of {l : List Oper} {ds : List (Option Tmp)} (h : l.map (fun o : Oper => o.dst) = ds) : Dsts l.toArray ds := fun j => by
  subst h
  show (l[j]?).bind _ = _
  rw [List.getElem?_map]
  cases l[j]? <;> rfl
theorem SX.region_d {id : Nat} {l : List Oper} (ds : List (Option Tmp)) (hd : l.map (fun o : Oper => o.dst) = ds) (h : ∀ ops : Array Oper, Dsts ops ds → VCops Γ n ops l (Q .normal) T L) : SX Γ n (.region id l.toArray false) Q T L := SX.region (h _ (dsts_of hd))
theorem SX.region_xd {id : Nat} {l : List Oper} (ds : List (Option Tmp)) (hd : l.map (fun o : Oper => o.dst) = ds) (h : ∀ ops : Array Oper, Dsts ops ds → RX Γ n ops l Q T L) : SX Γ n (.region id l.toArray false) Q T L := SX.region_x (h _ (dsts_of hd))
theorem SX.quiet_d {id : Nat} {l : List Oper} (hm : Γ.P.follows .mixedOrders = true) (hB : Region.lexB .any l.toArray = true) (ds : List (Option Tmp)) (hd : l.map (fun o : Oper => o.dst) = ds) (h : ∀ ops : Array Oper, Dsts ops ds → VQops Γ n ops L l (fun T => Q .normal T L) T) : SX Γ n (.region id l.toArray true) Q T L := SX.quiet hm hB (h _ (dsts_of hd))
theorem SX.drawn_d {id : Nat} {l : List Oper} (pl : List (Nat × Kd)) (G : Hp → Hp) (hm : Γ.P.follows .mixedOrders = true) (hB : planB l.toArray pl = true) (hG : Less L (G L)) (ds : List (Option Tmp)) (hd : l.map (fun o : Oper => o.dst) = ds)
    (h : ∀ ops : Array Oper, Dsts ops ds → (∀ k : Nat, ops.toList[k]? = l[k]?) → VCplan Γ n ops G pl (Q .normal) T L) : SX Γ n (.region id l.toArray true) Q T L := SX.drawn pl G hm hB hG (h _ (dsts_of hd) fun _ => rfl)
end
/-- A mark: what it hangs on is left as it is. -/
abbrev Dk {α : Sort u} (_ : α) : Type := Unit
def VCplanH (Γ : Ctx) (n : Nat) (ops : Array Oper) (G : (Hp → Hp)) (pl : List (Nat × Kd)) (K : (Env → Hp → Prop)) (T : Env) (L : Hp) (_ : Dk ops) (_ : Dk G) (_ : Dk K) (_ : Dk T) (_ : Dk L) : Prop := VCplan Γ n ops G pl K T L
def VCopsH (Γ : Ctx) (n : Nat) (ops : Array Oper) (l : List Oper) (K : (Env → Hp → Prop)) (T : Env) (L : Hp) (_ : Dk ops) (_ : Dk l) (_ : Dk K) (_ : Dk T) (_ : Dk L) : Prop := VCops Γ n ops l K T L
def VQopsH (Γ : Ctx) (n : Nat) (ops : Array Oper) (L : Hp) (l : List Oper) (K : (Env → Prop)) (T : Env) (_ : Dk ops) (_ : Dk L) (_ : Dk l) (_ : Dk K) (_ : Dk T) : Prop := VQops Γ n ops L l K T
def guardVCH (ops : Array Oper) (g : Option (Nat × Bool)) (T : Env) (yes : (Env → Prop)) (no : (Env → Prop)) (_ : Dk ops) (_ : Dk T) (_ : Dk yes) (_ : Dk no) : Prop := guardVC ops g T yes no
def putVCH (n : Nat) (d : Option Tmp) (v : Value) (T : Env) (k : (Env → Prop)) (_ : Dk T) (_ : Dk k) : Prop := putVC n d v T k
def VCH (Γ : Ctx) (o : Oper) (T : Env) (L : Hp) (K : (Value → Hp → Prop)) (_ : Dk o) (_ : Dk T) (_ : Dk L) (_ : Dk K) : Prop := VC Γ o T L K
def VQH (Γ : Ctx) (o : Oper) (T : Env) (L : Hp) (K : (Value → Prop)) (_ : Dk o) (_ : Dk T) (_ : Dk L) (_ : Dk K) : Prop := VQ Γ o T L K
def binVCH (P : Program) (op : BinOp) (t : TypeId) (x : Value) (y : Value) (K : (Value → Prop)) (D : Prop) (_ : Dk K) (_ : Dk D) : Prop := binVC P op t x y K D
def unVCH (op : UnOp) (x : Value) (K : (Value → Prop)) (D : Prop) (_ : Dk K) (_ : Dk D) : Prop := unVC op x K D
def convVCH (Γ : Ctx) (s : TypeId) (d : TypeId) (x : Value) (L : Hp) (K : (Value → Prop)) (D : Prop) (_ : Dk L) (_ : Dk K) (_ : Dk D) : Prop := convVC Γ s d x L K D
def sliceVCH (P : Program) (t : TypeId) (x : Value) (lo : Option Value) (hi : Option Value) (mx : Option Value) (K : (Value → Prop)) (D : Prop) (_ : Dk K) (_ : Dk D) : Prop := sliceVC P t x lo hi mx K D
def partVCH (ag : Bool) (sz : Nat) (cs : Array Value) (off : Nat) (K : (Value → Prop)) (_ : Dk K) : Prop := partVC ag sz cs off K
def fieldVCH (P : Program) (t : TypeId) (x : Value) (f : Nat) (K : (Value → Prop)) (D : Prop) (_ : Dk K) (_ : Dk D) : Prop := fieldVC P t x f K D
def indexVCH (P : Program) (t : TypeId) (x : Value) (i : Value) (K : (Value → Prop)) (D : Prop) (_ : Dk K) (_ : Dk D) : Prop := indexVC P t x i K D
def indexAddrVCH (P : Program) (t : TypeId) (x : Value) (i : Value) (K : (Value → Prop)) (D : Prop) (_ : Dk K) (_ : Dk D) : Prop := indexAddrVC P t x i K D
def buildVCH (P : Program) (t : TypeId) (parts : List (Nat × Value)) (K : (Value → Prop)) (D : Prop) (_ : Dk K) (_ : Dk D) : Prop := buildVC P t parts K D
def lenVCH (P : Program) (ty : TypeId) (x : Value) (K : (Value → Prop)) (D : Prop) (_ : Dk K) (_ : Dk D) : Prop := lenVC P ty x K D
def capVCH (P : Program) (ty : TypeId) (x : Value) (K : (Value → Prop)) (D : Prop) (_ : Dk K) (_ : Dk D) : Prop := capVC P ty x K D
def pickVCH (v : Value) (x : Value) (y : Value) (K : (Value → Prop)) (D : Prop) (_ : Dk K) (_ : Dk D) : Prop := pickVC v x y K D
def ldVCH (Γ : Ctx) (t : TypeId) (v : Value) (L : Hp) (K : (Value → Prop)) (D : Prop) (_ : Dk L) (_ : Dk K) (_ : Dk D) : Prop := ldVC Γ t v L K D
def loadVCH (Γ : Ctx) (t : TypeId) (L : Hp) (a : Addr) (K : (Value → Prop)) (_ : Dk L) (_ : Dk K) : Prop := loadVC Γ t L a K
def loadNH (Γ : Ctx) (L : Hp) (a : Addr) (i : Nat) (k : Nat) (acc : List Value) (K : (Value → Prop)) (_ : Dk L) (_ : Dk K) : Prop := loadN Γ L a i k acc K
def nilVCH (v : Value) (K : (Value → Prop)) (D : Prop) (_ : Dk K) (_ : Dk D) : Prop := nilVC v K D
def faVCH (P : Program) (t : TypeId) (v : Value) (f : Nat) (K : (Value → Prop)) (D : Prop) (_ : Dk K) (_ : Dk D) : Prop := faVC P t v f K D
def extVCH (v : Value) (i : Nat) (K : (Value → Prop)) (D : Prop) (_ : Dk K) (_ : Dk D) : Prop := extVC v i K D
def minVCH (x : Value) (y : Value) (K : (Value → Prop)) (D : Prop) (_ : Dk K) (_ : Dk D) : Prop := minVC x y K D
def maxVCH (x : Value) (y : Value) (K : (Value → Prop)) (D : Prop) (_ : Dk K) (_ : Dk D) : Prop := maxVC x y K D
def qcallVCH (Γ : Ctx) (f : Value) (args : Array Value) (L : Hp) (K : (Value → Prop)) (D : Prop) (_ : Dk L) (_ : Dk K) (_ : Dk D) : Prop := qcallVC Γ f args L K D
def lkVCH (Γ : Ctx) (t : TypeId) (x : Value) (k : Value) (ok : Bool) (L : Hp) (K : (Value → Prop)) (D : Prop) (_ : Dk L) (_ : Dk K) (_ : Dk D) : Prop := lkVC Γ t x k ok L K D
def fndKH (z : Option Value) (ok : Bool) (fr : Option (Nat × Value)) (K : (Value → Prop)) (_ : Dk K) : Prop := fndK z ok fr K
def aggEqH (P : Program) (t : TypeId) (a : Array Value) (b : Array Value) (K : (Bool → Prop)) (_ : Dk K) : Prop := aggEq P t a b K
def storeVCH (Γ : Ctx) (t : TypeId) (a : Addr) (v : Value) (L : Hp) (K : (Hp → Prop)) (_ : Dk L) (_ : Dk K) : Prop := storeVC Γ t a v L K
def stVCH (Γ : Ctx) (t : TypeId) (p : Value) (v : Value) (L : Hp) (K : (Hp → Prop)) (D : Prop) (_ : Dk L) (_ : Dk K) (_ : Dk D) : Prop := stVC Γ t p v L K D
def mkVCH (Γ : Ctx) (t : TypeId) (l : Value) (c : Value) (L : Hp) (K : (Value → Hp → Prop)) (D : Prop) (_ : Dk L) (_ : Dk K) (_ : Dk D) : Prop := mkVC Γ t l c L K D
def cvVCH (Γ : Ctx) (s : TypeId) (d : TypeId) (v : Value) (L : Hp) (K : (Value → Hp → Prop)) (D1 : Prop) (D2 : Prop) (_ : Dk L) (_ : Dk K) (_ : Dk D1) (_ : Dk D2) : Prop := cvVC Γ s d v L K D1 D2
def callVCH (Γ : Ctx) (f : Value) (args : Array Value) (L : Hp) (K : (Value → Hp → Prop)) (D : Prop) (_ : Dk L) (_ : Dk K) (_ : Dk D) : Prop := callVC Γ f args L K D
def rgVCH (Γ : Ctx) (t : TypeId) (x : Value) (L : Hp) (K : (Value → Hp → Prop)) (D : Prop) (_ : Dk L) (_ : Dk K) (_ : Dk D) : Prop := rgVC Γ t x L K D
def nxVCH (x : Value) (L : Hp) (K : (Value → Hp → Prop)) (D : Prop) (_ : Dk L) (_ : Dk K) (_ : Dk D) : Prop := nxVC x L K D
def muVCH (Γ : Ctx) (t : TypeId) (m : Value) (k : Value) (v : Value) (L : Hp) (K : (Hp → Prop)) (D : Prop) (_ : Dk L) (_ : Dk K) (_ : Dk D) : Prop := muVC Γ t m k v L K D
def boxVCH (v : Value) (t : TypeId) (L : Hp) (K : (Value → Hp → Prop)) (_ : Dk L) (_ : Dk K) : Prop := boxVC v t L K
def bsVCH (Γ : Ctx) (t : TypeId) (len : Nat) (parts : List (Nat × Value)) (size : Nat) (L : Hp) (K : (Value → Hp → Prop)) (D : Prop) (_ : Dk L) (_ : Dk K) (_ : Dk D) : Prop := bsVC Γ t len parts size L K D
def strDH (o : Option TypeDesc) (Y : Prop) (D : Prop) (_ : Dk Y) (_ : Dk D) : Prop := strD o Y D
def intDH (o : TypeDesc) (K : (IntKind → Prop)) (D : Prop) (_ : Dk K) (_ : Dk D) : Prop := intD o K D
def cvDH (u : TypeDesc) (P : Program) (str : ByteArray) (L : Hp) (K2 : (Value → Hp → Prop)) (D : Prop) (_ : Dk L) (_ : Dk K2) (_ : Dk D) : Prop := cvD u P str L K2 D
def fillKH (place : (Nat → Option (Nat × Nat))) (cells : List Value) (parts : List (Nat × Value)) (K : (List Value → Prop)) (D : Prop) (_ : Dk K) (_ : Dk D) : Prop := fillK place cells parts K D
def gBH (v : Value) (want : Bool) (Y : Prop) (N : Prop) (F : Prop) (_ : Dk Y) (_ : Dk N) (_ : Dk F) : Prop := gB v want Y N F
def oMH {α : Type} (o : Option α) (s : (α → Prop)) (n : Prop) (_ : Dk s) (_ : Dk n) : Prop := oM o s n
def VCopsV (Γ : Ctx) (n : Nat) (ops : Array Oper) (l : List Oper) (K : Env → Hp → Prop) (T : Env) (L : Hp) (_ : Dk ops) (_ : Dk K) (_ : Dk T) (_ : Dk L) : Prop := VCops Γ n ops l K T L
def VQopsV (Γ : Ctx) (n : Nat) (ops : Array Oper) (L : Hp) (l : List Oper) (K : Env → Prop) (T : Env) (_ : Dk ops) (_ : Dk L) (_ : Dk K) (_ : Dk T) : Prop := VQops Γ n ops L l K T
section
variable {Γ : Ctx} {P : Program} {n : Nat} {ops : Array Oper} {T : Env} {L : Hp} {t s d : TypeId} {k k' : IntKind} {a b : Int} {D D2 : Prop} {ad : Addr}
variable {K : Value → Prop} {K2 : Value → Hp → Prop} {K3 : Hp → Prop} {yes no : Env → Prop} {dst : Option Tmp} {ty : TypeId} {ps : String} {af : Array Edge} {g : Option (Nat × Bool)}
theorem oM_someH {α : Type} (a : α) (s : α → Prop) (n : Prop) : oMH (some a) s n () () = s a := oM_some a s n
theorem oM_noneH {α : Type} (s : α → Prop) (n : Prop) : oMH none s n () () = n := oM_none s n
theorem gB_boolH (b want : Bool) (Y N F : Prop) : gBH (.bool b) want Y N F () () () = if b = want then Y else N := gB_bool b want Y N F
theorem strD_stringH (Y D : Prop) : strDH (some .string) Y D () () = Y := strD_string Y D
theorem box_eH (v : Value) (t : TypeId) (L : Hp) (K : Value → Hp → Prop) : boxVCH v t L K () () = ∀ b, stK (K (.pointer (some ⟨b, 0, none⟩)) (some (b, .cells v.cells t (0, 0)) :: L)) () := box_e v t L K
theorem bs_eH (Γ : Ctx) (t : TypeId) (len : Nat) (parts : List (Nat × Value)) (size : Nat) (L : Hp) (K : Value → Hp → Prop) (D : Prop) : bsVCH Γ t len parts size L K D () () () = oMH (elS Γ.P t) (fun p => (inOrd p.2.1 0 parts = true ∧ size = len ∧ len * p.2.1 ≤ 16777216 ∧ (zr Γ.P p.1).map List.length = some p.2.1) ∧ ∀ b, stK (K (.slice (some ⟨b, 0, none⟩) len len) (some (b, .cells (catV parts).toArray p.1 (0, 0)) :: L)) ()) D () () := bs_e Γ t len parts size L K D
theorem cvD_sliceH (e : TypeId) (P : Program) (str : ByteArray) (L : Hp) (K2 : Value → Hp → Prop) (D : Prop) : cvDH (.slice e) P str L K2 D () () () = (P.underlying e = some (.int .u8) ∧ ∀ b cap, str.size ≤ cap → stK (K2 (.slice (some ⟨b, 0, none⟩) str.size cap) (some (b, .cells (bytesV str ++ List.replicate (cap - str.size) (Value.int .u8 0)).toArray e (cap, cap + 1)) :: L)) ()) := cvD_slice e P str L K2 D
theorem cvD_stringH (P : Program) (str : ByteArray) (L : Hp) (K2 : Value → Hp → Prop) (D : Prop) : cvDH .string P str L K2 D () () () = K2 (.string str) L := cvD_string P str L K2 D
theorem fillK_nilH (place : Nat → Option (Nat × Nat)) (cells : List Value) (K : List Value → Prop) (D : Prop) : fillKH place cells [] K D () () = K cells := fillK_nil place cells K D
theorem fillK_consH (place : Nat → Option (Nat × Nat)) (cells : List Value) (i : Nat) (v : Value) (rest : List (Nat × Value)) (K : List Value → Prop) (D : Prop) : fillKH place cells ((i, v) :: rest) K D () () = oMH (place i) (fun p => if v.cells.size = p.2 ∧ p.1 + p.2 ≤ cells.length then fillKH place (setN cells p.1 v.cells.toList) rest K D () () else D) D () () := fillK_cons place cells i v rest K D
theorem intD_intH (k : IntKind) (K : IntKind → Prop) (D : Prop) : intDH (.int k) K D () () = K k := intD_int k K D
theorem guard_noneH : guardVCH ops none T yes no () () () () = yes T := guard_none 
theorem guard_someH (j : Nat) (want : Bool) : guardVCH ops (some (j, want)) T yes no () () () () = oMH ((ops.toList[j]?).bind (·.dst)) (fun d => gBH (T d) want (yes (upd T d (.bool want))) (no (upd T d (.bool (!want)))) (no T) () () ()) (no T) () () := guard_some j want
theorem put_noneH (v : Value) (k : Env → Prop) : putVCH n none v T k () () = k T := put_none v k
theorem put_someH (d : Nat) (v : Value) (k : Env → Prop) : putVCH n (some d) v T k () () = (d < n ∧ k (upd T d v)) := put_some d v k
theorem plan_nilH {G : Hp → Hp} {Q : Env → Hp → Prop} : VCplanH Γ n ops G [] Q T L () () () () () = Q T L := plan_nil 
theorem plan_qH {G : Hp → Hp} {Q : Env → Hp → Prop} (i : Nat) (r : List (Nat × Kd)) : VCplanH Γ n ops G ((i, .q) :: r) Q T L () () () () () = oMH (ops.toList[i]?) (fun o => guardVCH ops o.guard T (fun T => VQH Γ o T (G L) (fun v => putVCH n o.dst v T (fun T => VCplanH Γ n ops G r Q T L () () () () ()) () ()) () () () ()) (fun T => putVCH n o.dst undef T (fun T => VCplanH Γ n ops G r Q T L () () () () ()) () ()) () () () ()) False () () := plan_q i r
theorem plan_cH {G : Hp → Hp} {Q : Env → Hp → Prop} (i : Nat) (r : List (Nat × Kd)) : VCplanH Γ n ops G ((i, .c) :: r) Q T L () () () () () = oMH (ops.toList[i]?) (fun o => guardVCH ops o.guard T (fun T => ∃ v, (∀ L0, Less L0 (G L) → VCH Γ o T L0 (fun u L1 => u = v ∧ L1 = L0) () () () ()) ∧ putVCH n o.dst v T (fun T => VCplanH Γ n ops G r Q T L () () () () ()) () ()) (fun T => putVCH n o.dst undef T (fun T => VCplanH Γ n ops G r Q T L () () () () ()) () ()) () () () ()) False () () := plan_c i r
theorem plan_eH {G : Hp → Hp} {Q : Env → Hp → Prop} (i : Nat) (r : List (Nat × Kd)) : VCplanH Γ n ops G ((i, .e) :: r) Q T L () () () () () = oMH (ops.toList[i]?) (fun o => guardVCH ops o.guard T (fun T => VCH Γ o T L (fun v L' => putVCH n o.dst v T (fun T => (Less L' (G L') ∧ Less (G L') (G L)) ∧ VCplanH Γ n ops G r Q T L' () () () () ()) () ()) () () () ()) (fun T => putVCH n o.dst undef T (fun T => VCplanH Γ n ops G r Q T L () () () () ()) () ()) () () () ()) False () () := plan_e i r
theorem plan_tH {G : Hp → Hp} {Q : Env → Hp → Prop} (i : Nat) (r : List (Nat × Kd)) : VCplanH Γ n ops G ((i, .t) :: r) Q T L () () () () () = oMH (ops.toList[i]?) (fun o => guardVCH ops o.guard T (fun T => VCH Γ o T L (fun v L' => putVCH n o.dst v T (fun T => VCplanH Γ n ops G r Q T L' () () () () ()) () ()) () () () ()) (fun T => putVCH n o.dst undef T (fun T => VCplanH Γ n ops G r Q T L () () () () ()) () ()) () () () ()) False () () := plan_t i r
theorem VQ_moveH (x : Operand) : VQH Γ ⟨dst, .move x, ty, ps, af, g⟩ T L K () () () () = K (ev T x) := VQ_move x
theorem VC_moveH (x : Operand) : VCH Γ ⟨dst, .move x, ty, ps, af, g⟩ T L K2 () () () () = (fun v => K2 v L) (ev T x) := VC_move x
theorem VQ_assignH (x : Operand) : VQH Γ ⟨dst, .assign x, ty, ps, af, g⟩ T L K () () () () = K (ev T x) := VQ_assign x
theorem VC_assignH (x : Operand) : VCH Γ ⟨dst, .assign x, ty, ps, af, g⟩ T L K2 () () () () = (fun v => K2 v L) (ev T x) := VC_assign x
theorem VQ_pickH (c x y : Operand) : VQH Γ ⟨dst, .pick c x y, ty, ps, af, g⟩ T L K () () () () = pickVCH (ev T c) (ev T x) (ev T y) K False () () := VQ_pick c x y
theorem VC_pickH (c x y : Operand) : VCH Γ ⟨dst, .pick c x y, ty, ps, af, g⟩ T L K2 () () () () = pickVCH (ev T c) (ev T x) (ev T y) (fun v => K2 v L) False () () := VC_pick c x y
theorem VQ_loadH (e : TypeId) (x : Operand) : VQH Γ ⟨dst, .load e x, ty, ps, af, g⟩ T L K () () () () = ldVCH Γ e (ev T x) L K False () () () := VQ_load e x
theorem VC_loadH (e : TypeId) (x : Operand) : VCH Γ ⟨dst, .load e x, ty, ps, af, g⟩ T L K2 () () () () = ldVCH Γ e (ev T x) L (fun v => K2 v L) False () () () := VC_load e x
theorem VQ_nilCheckH (x : Operand) : VQH Γ ⟨dst, .nilCheck x, ty, ps, af, g⟩ T L K () () () () = nilVCH (ev T x) K False () () := VQ_nilCheck x
theorem VC_nilCheckH (x : Operand) : VCH Γ ⟨dst, .nilCheck x, ty, ps, af, g⟩ T L K2 () () () () = nilVCH (ev T x) (fun v => K2 v L) False () () := VC_nilCheck x
theorem VQ_unOpH (op : UnOp) (e : TypeId) (x : Operand) : VQH Γ ⟨dst, .unOp op e x, ty, ps, af, g⟩ T L K () () () () = unVCH op (ev T x) K False () () := VQ_unOp op e x
theorem VC_unOpH (op : UnOp) (e : TypeId) (x : Operand) : VCH Γ ⟨dst, .unOp op e x, ty, ps, af, g⟩ T L K2 () () () () = unVCH op (ev T x) (fun v => K2 v L) False () () := VC_unOp op e x
theorem VQ_binOpH (op : BinOp) (e e2 : TypeId) (x y : Operand) : VQH Γ ⟨dst, .binOp op e x y e2, ty, ps, af, g⟩ T L K () () () () = binVCH Γ.P op e (ev T x) (ev T y) K (YieldsQ Γ ⟨dst, .binOp op e x y e2, ty, ps, af, g⟩ T L K) () () := VQ_binOp op e e2 x y
theorem VC_binOpH (op : BinOp) (e e2 : TypeId) (x y : Operand) : VCH Γ ⟨dst, .binOp op e x y e2, ty, ps, af, g⟩ T L K2 () () () () = binVCH Γ.P op e (ev T x) (ev T y) (fun v => K2 v L) (YieldsQ Γ ⟨dst, .binOp op e x y e2, ty, ps, af, g⟩ T L (fun v => K2 v L)) () () := VC_binOp op e e2 x y
theorem VQ_makeFuncH (fn : Fn) (x y : Array Operand) : VQH Γ ⟨dst, .makeFunc fn x y, ty, ps, af, g⟩ T L K () () () () = K (.func fn (x.map (ev T)) (y.map (ev T))) := VQ_makeFunc fn x y
theorem VC_makeFuncH (fn : Fn) (x y : Array Operand) : VCH Γ ⟨dst, .makeFunc fn x y, ty, ps, af, g⟩ T L K2 () () () () = (fun v => K2 v L) (.func fn (x.map (ev T)) (y.map (ev T))) := VC_makeFunc fn x y
theorem VQ_fieldAddrH (e : TypeId) (x : Operand) (f : Nat) : VQH Γ ⟨dst, .fieldAddr e x f, ty, ps, af, g⟩ T L K () () () () = faVCH Γ.P e (ev T x) f K False () () := VQ_fieldAddr e x f
theorem VC_fieldAddrH (e : TypeId) (x : Operand) (f : Nat) : VCH Γ ⟨dst, .fieldAddr e x f, ty, ps, af, g⟩ T L K2 () () () () = faVCH Γ.P e (ev T x) f (fun v => K2 v L) False () () := VC_fieldAddr e x f
theorem VQ_fieldH (e : TypeId) (x : Operand) (f : Nat) : VQH Γ ⟨dst, .field e x f, ty, ps, af, g⟩ T L K () () () () = fieldVCH Γ.P e (ev T x) f K False () () := VQ_field e x f
theorem VC_fieldH (e : TypeId) (x : Operand) (f : Nat) : VCH Γ ⟨dst, .field e x f, ty, ps, af, g⟩ T L K2 () () () () = fieldVCH Γ.P e (ev T x) f (fun v => K2 v L) False () () := VC_field e x f
theorem VQ_indexAddrH (e : TypeId) (x y : Operand) : VQH Γ ⟨dst, .indexAddr e x y, ty, ps, af, g⟩ T L K () () () () = indexAddrVCH Γ.P e (ev T x) (ev T y) K False () () := VQ_indexAddr e x y
theorem VC_indexAddrH (e : TypeId) (x y : Operand) : VCH Γ ⟨dst, .indexAddr e x y, ty, ps, af, g⟩ T L K2 () () () () = indexAddrVCH Γ.P e (ev T x) (ev T y) (fun v => K2 v L) False () () := VC_indexAddr e x y
theorem VQ_indexH (e : TypeId) (x y : Operand) : VQH Γ ⟨dst, .index e x y, ty, ps, af, g⟩ T L K () () () () = indexVCH Γ.P e (ev T x) (ev T y) K False () () := VQ_index e x y
theorem VC_indexH (e : TypeId) (x y : Operand) : VCH Γ ⟨dst, .index e x y, ty, ps, af, g⟩ T L K2 () () () () = indexVCH Γ.P e (ev T x) (ev T y) (fun v => K2 v L) False () () := VC_index e x y
theorem VQ_sliceH (e : TypeId) (x : Operand) (lo hi mx : Option Operand) : VQH Γ ⟨dst, .slice e x lo hi mx, ty, ps, af, g⟩ T L K () () () () = sliceVCH Γ.P e (ev T x) (lo.map (ev T)) (hi.map (ev T)) (mx.map (ev T)) K False () () := VQ_slice e x lo hi mx
theorem VC_sliceH (e : TypeId) (x : Operand) (lo hi mx : Option Operand) : VCH Γ ⟨dst, .slice e x lo hi mx, ty, ps, af, g⟩ T L K2 () () () () = sliceVCH Γ.P e (ev T x) (lo.map (ev T)) (hi.map (ev T)) (mx.map (ev T)) (fun v => K2 v L) False () () := VC_slice e x lo hi mx
theorem VQ_extractH (x : Operand) (i : Nat) : VQH Γ ⟨dst, .extract x i, ty, ps, af, g⟩ T L K () () () () = extVCH (ev T x) i K False () () := VQ_extract x i
theorem VC_extractH (x : Operand) (i : Nat) : VCH Γ ⟨dst, .extract x i, ty, ps, af, g⟩ T L K2 () () () () = extVCH (ev T x) i (fun v => K2 v L) False () () := VC_extract x i
theorem VQ_buildH (e : TypeId) (parts : List (Nat × Operand)) : VQH Γ ⟨dst, .build e parts.toArray, ty, ps, af, g⟩ T L K () () () () = buildVCH Γ.P e (evP T parts) K False () () := VQ_build e parts
theorem VC_buildH (e : TypeId) (parts : List (Nat × Operand)) : VCH Γ ⟨dst, .build e parts.toArray, ty, ps, af, g⟩ T L K2 () () () () = buildVCH Γ.P e (evP T parts) (fun v => K2 v L) False () () := VC_build e parts
theorem VQ_lookupH (e : TypeId) (x y : Operand) (ok : Bool) : VQH Γ ⟨dst, .lookup e x y ok, ty, ps, af, g⟩ T L K () () () () = lkVCH Γ e (ev T x) (ev T y) ok L K False () () () := VQ_lookup e x y ok
theorem VC_lookupH (e : TypeId) (x y : Operand) (ok : Bool) : VCH Γ ⟨dst, .lookup e x y ok, ty, ps, af, g⟩ T L K2 () () () () = lkVCH Γ e (ev T x) (ev T y) ok L (fun v => K2 v L) False () () () := VC_lookup e x y ok
theorem VQ_lenH (x : Operand) (e : TypeId) : VQH Γ ⟨dst, .call ⟨.builtin .len, #[x], #[e]⟩, ty, ps, af, g⟩ T L K () () () () = lenVCH Γ.P e (ev T x) K False () () := VQ_len x e
theorem VC_lenH (x : Operand) (e : TypeId) : VCH Γ ⟨dst, .call ⟨.builtin .len, #[x], #[e]⟩, ty, ps, af, g⟩ T L K2 () () () () = lenVCH Γ.P e (ev T x) (fun v => K2 v L) False () () := VC_len x e
theorem VQ_capH (x : Operand) (e : TypeId) : VQH Γ ⟨dst, .call ⟨.builtin .cap, #[x], #[e]⟩, ty, ps, af, g⟩ T L K () () () () = capVCH Γ.P e (ev T x) K False () () := VQ_cap x e
theorem VC_capH (x : Operand) (e : TypeId) : VCH Γ ⟨dst, .call ⟨.builtin .cap, #[x], #[e]⟩, ty, ps, af, g⟩ T L K2 () () () () = capVCH Γ.P e (ev T x) (fun v => K2 v L) False () () := VC_cap x e
theorem VQ_minH (x y : Operand) (ts : Array TypeId) : VQH Γ ⟨dst, .call ⟨.builtin .min, #[x, y], ts⟩, ty, ps, af, g⟩ T L K () () () () = minVCH (ev T x) (ev T y) K False () () := VQ_min x y ts
theorem VC_minH (x y : Operand) (ts : Array TypeId) : VCH Γ ⟨dst, .call ⟨.builtin .min, #[x, y], ts⟩, ty, ps, af, g⟩ T L K2 () () () () = minVCH (ev T x) (ev T y) (fun v => K2 v L) False () () := VC_min x y ts
theorem VQ_maxH (x y : Operand) (ts : Array TypeId) : VQH Γ ⟨dst, .call ⟨.builtin .max, #[x, y], ts⟩, ty, ps, af, g⟩ T L K () () () () = maxVCH (ev T x) (ev T y) K False () () := VQ_max x y ts
theorem VC_maxH (x y : Operand) (ts : Array TypeId) : VCH Γ ⟨dst, .call ⟨.builtin .max, #[x, y], ts⟩, ty, ps, af, g⟩ T L K2 () () () () = maxVCH (ev T x) (ev T y) (fun v => K2 v L) False () () := VC_max x y ts
theorem VQ_convertH (e e2 : TypeId) (x : Operand) : VQH Γ ⟨dst, .convert e e2 x, ty, ps, af, g⟩ T L K () () () () = convVCH Γ e e2 (ev T x) L K (YieldsQ Γ ⟨dst, .convert e e2 x, ty, ps, af, g⟩ T L K) () () () := VQ_convert e e2 x
theorem VQ_callH (f : Operand) (as_ : Array Operand) (ts : Array TypeId) : VQH Γ ⟨dst, .call ⟨.value f, as_, ts⟩, ty, ps, af, g⟩ T L K () () () () = qcallVCH Γ (ev T f) (as_.map (ev T)) L K False () () () := VQ_call f as_ ts
theorem VC_allocH (e : TypeId) : VCH Γ ⟨dst, .alloc e, ty, ps, af, g⟩ T L K2 () () () () = oMH (zr Γ.P e) (fun z => ∀ b, stK (K2 (.pointer (some ⟨b, 0, none⟩)) (some (b, .cells z.toArray e (0, 0)) :: L)) ()) (Yields Γ ⟨dst, .alloc e, ty, ps, af, g⟩ T L K2) () () := VC_alloc e
theorem VC_boxH (e : TypeId) (x : Operand) : VCH Γ ⟨dst, .box e x, ty, ps, af, g⟩ T L K2 () () () () = boxVCH (ev T x) e L K2 () () := VC_box e x
theorem VC_storeH (e : TypeId) (x y : Operand) : VCH Γ ⟨dst, .store e x y, ty, ps, af, g⟩ T L K2 () () () () = stVCH Γ e (ev T x) (ev T y) L (K2 undef) False () () () := VC_store e x y
theorem VC_buildSliceH (e : TypeId) (len : Nat) (parts : List (Nat × Operand)) : VCH Γ ⟨dst, .buildSlice e len parts.toArray, ty, ps, af, g⟩ T L K2 () () () () = bsVCH Γ e len (evP T parts) parts.length L K2 (Yields Γ ⟨dst, .buildSlice e len parts.toArray, ty, ps, af, g⟩ T L K2) () () () := VC_buildSlice e len parts
theorem VC_makeSliceH (e : TypeId) (x y : Operand) : VCH Γ ⟨dst, .makeSlice e x y, ty, ps, af, g⟩ T L K2 () () () () = mkVCH Γ e (ev T x) (ev T y) L K2 False () () () := VC_makeSlice e x y
theorem VC_rangeH (e : TypeId) (x : Operand) : VCH Γ ⟨dst, .range e x, ty, ps, af, g⟩ T L K2 () () () () = rgVCH Γ e (ev T x) L K2 False () () () := VC_range e x
theorem VC_nextH (x : Operand) : VCH Γ ⟨dst, .next x true, ty, ps, af, g⟩ T L K2 () () () () = nxVCH (ev T x) L K2 False () () () := VC_next x
theorem VC_makeMapH (e : TypeId) : VCH Γ ⟨dst, .makeMap e none, ty, ps, af, g⟩ T L K2 () () () () = ∀ b, stK (K2 (.map (some b)) (some (b, .map #[] 0) :: L)) () := VC_makeMap e
theorem VC_mapUpdateH (e : TypeId) (m x y : Operand) : VCH Γ ⟨dst, .mapUpdate e m x y, ty, ps, af, g⟩ T L K2 () () () () = muVCH Γ e (ev T m) (ev T x) (ev T y) L (K2 undef) False () () () := VC_mapUpdate e m x y
theorem VC_insertH (e : TypeId) (m x y : Operand) : VCH Γ ⟨dst, .insert e m x y, ty, ps, af, g⟩ T L K2 () () () () = muVCH Γ e (ev T m) (ev T x) (ev T y) L (K2 undef) False () () () := VC_insert e m x y
theorem VC_convertH (e e2 : TypeId) (x : Operand) : VCH Γ ⟨dst, .convert e e2 x, ty, ps, af, g⟩ T L K2 () () () () = cvVCH Γ e e2 (ev T x) L K2 False (VQH Γ ⟨dst, .convert e e2 x, ty, ps, af, g⟩ T L (fun v => K2 v L) () () () ()) () () () () := VC_convert e e2 x
theorem VC_appendH (x y : Operand) (tx ty2 : TypeId) : VCH Γ ⟨dst, .call ⟨.builtin .append, #[x, y], #[tx, ty2]⟩, ty, ps, af, g⟩ T L K2 () () () () = YAppend Γ tx ty2 (ev T x) (ev T y) L (fun v L => stK (K2 v L) ()) := VC_append x y tx ty2
theorem VC_copyH (x y : Operand) (tx ty2 : TypeId) : VCH Γ ⟨dst, .call ⟨.builtin .copy, #[x, y], #[tx, ty2]⟩, ty, ps, af, g⟩ T L K2 () () () () = YCopy Γ tx ty2 (ev T x) (ev T y) L (fun v L => stK (K2 v L) ()) := VC_copy x y tx ty2
theorem VC_callH (f : Operand) (as_ : Array Operand) (ts : Array TypeId) : VCH Γ ⟨dst, .call ⟨.value f, as_, ts⟩, ty, ps, af, g⟩ T L K2 () () () () = callVCH Γ (ev T f) (as_.map (ev T)) L K2 False () () () := VC_call f as_ ts
theorem loadVC_eH : loadVCH Γ t L ad K () () = oMH (szA Γ.P t) (fun p => if p.2 = true then loadNH Γ L ad 0 p.1 [] (fun v => stK (K v) ()) () () else ∃ v, Cell Γ L ad v ∧ stK (K v) ()) False () () := loadVC_e 
theorem part_eH (ag : Bool) (sz : Nat) (cs : Array Value) (off : Nat) : partVCH ag sz cs off K () = if ag = true then K (.agg (cs.toList.drop off |>.take sz).toArray) else oMH (cs.toList[off]?) K False () () := part_e ag sz cs off
theorem fa_eH (f : Nat) : faVCH P t (.pointer (some ad)) f K D () () = oMH (lay P t) (fun l => oMH l[f]? (fun p => p.2.1 ≠ 0 ∧ K (.pointer (some (ad.add p.1)))) D () ()) D () () := fa_e f
theorem field_eH (cs : Array Value) (f : Nat) : fieldVCH P t (.agg cs) f K D () () = oMH (lay P t) (fun l => oMH l[f]? (fun p => partVCH p.2.2 p.2.1 cs p.1 K ()) D () ()) D () () := field_e cs f
theorem index_eH (cs : Array Value) : indexVCH P t (.agg cs) (.int k a) K D () () = oMH (elA P t) (fun p => (0 ≤ a ∧ a < p.1) ∧ partVCH p.2.2.2 p.2.2.1 cs (a.toNat * p.2.2.1) K ()) D () () := index_e cs
theorem ext_eH (vs : Array Value) (i : Nat) : extVCH (.tuple vs) i K D () () = oMH (vs.toList[i]?) K False () () := ext_e vs i
theorem ia_someH (len cap : Nat) : indexAddrVCH P t (.slice (some ad) len cap) (.int k a) K D () () = oMH (elS P t) (fun p => (0 ≤ a ∧ a < len) ∧ K (.pointer (some (ad.add (a.toNat * p.2.1))))) D () () := ia_some len cap
theorem ia_anyH (base : Option Addr) (len cap : Nat) : indexAddrVCH P t (.slice base len cap) (.int k a) K D () () = oMH (elS P t) (fun p => (0 ≤ a ∧ a < len) ∧ ∃ ad, base = some ad ∧ stK (K (.pointer (some (ad.add (a.toNat * p.2.1))))) ()) D () () := ia_any base len cap
theorem ia_ptrH : indexAddrVCH P t (.pointer (some ad)) (.int k a) K D () () = oMH (elA P t) (fun p => (0 ≤ a ∧ a < p.1) ∧ K (.pointer (some (ad.add (a.toNat * p.2.2.1))))) D () () := ia_ptr 
theorem conv_eH : convVCH Γ s d (.int k a) L K D () () () = oMH (Γ.P.underlying s) (fun _ => oMH (Γ.P.underlying d) (fun u => intDH u (fun k => K (.int k (k.wrap a))) D () ()) D () ()) D () () := conv_e 
theorem sl_strH (st : ByteArray) (lo hi : Option Value) : sliceVCH P t (.string st) lo hi none K D () () = oMH (optI 0 lo) (fun l => oMH (optI st.size hi) (fun h => strDH (P.underlying t) ((0 ≤ l ∧ l ≤ h ∧ h ≤ st.size) ∧ K (.string (st.extract l.toNat h.toNat))) D () ()) D () ()) D () () := sl_str st lo hi
theorem sl_slH (base : Option Addr) (len cap : Nat) (lo hi : Option Value) : sliceVCH P t (.slice base len cap) lo hi none K D () () = oMH (elS P t) (fun p => oMH (optI 0 lo) (fun l => oMH (optI len hi) (fun h => ((hi.isSome = true ∨ len ≤ cap) ∧ 0 ≤ l ∧ l ≤ h ∧ h ≤ cap) ∧ K (.slice (cutA base p.2.1 cap l.toNat) (h.toNat - l.toNat) (cap - l.toNat))) D () ()) D () ()) D () () := sl_sl base len cap lo hi
theorem sl_arr0H (lo : Option Value) : sliceVCH P t (.pointer (some ad)) lo none none K D () () = oMH (elA P t) (fun p => oMH (optI 0 lo) (fun l => (0 ≤ l ∧ l ≤ p.1) ∧ K (.slice (cutA (some ad) p.2.2.1 p.1 l.toNat) (p.1 - l.toNat) (p.1 - l.toNat))) D () ()) D () () := sl_arr0 lo
theorem sl_arr1H (lo : Option Value) (h : Int) : sliceVCH P t (.pointer (some ad)) lo (some (.int k h)) none K D () () = oMH (elA P t) (fun p => oMH (optI 0 lo) (fun l => (0 ≤ l ∧ l ≤ h ∧ h ≤ p.1) ∧ K (.slice (cutA (some ad) p.2.2.1 p.1 l.toNat) (h.toNat - l.toNat) (p.1 - l.toNat))) D () ()) D () () := sl_arr1 lo h
theorem build_eH (parts : List (Nat × Value)) : buildVCH P t parts K D () () = oMH (lay P t) (fun l => oMH (zr P t) (fun z => fillKH (placeL l) z parts (fun cs => K (.agg cs.toArray)) D () ()) D () ()) (oMH (elA P t) (fun p => oMH (zr P t) (fun z => fillKH (fun i => some (i * p.2.2.1, p.2.2.1)) z parts (fun cs => K (.agg cs.toArray)) D () ()) D () ()) D () ()) () () := build_e parts
theorem mk_eH : mkVCH Γ t (.int k a) (.int k' b) L K2 D () () () = oMH (elS Γ.P t) (fun p => oMH (zr Γ.P p.1) (fun z => (0 ≤ a ∧ a ≤ b ∧ b * p.2.2 ≤ 281474976710656 ∧ b ≤ 9223372036854775807 ∧ z.length = p.2.1) ∧ ∀ bk, stK (K2 (.slice (some ⟨bk, 0, none⟩) a.toNat b.toNat) (some (bk, .cells (zerosV z b.toNat).toArray p.1 (0, 0)) :: L)) ()) D () ()) D () () := mk_e 
theorem cv_eH (s d : TypeId) (str : ByteArray) : cvVCH Γ s d (.string str) L K2 D D2 () () () () = oMH (Γ.P.underlying s) (fun _ => oMH (Γ.P.underlying d) (fun u => cvDH u Γ.P str L K2 D () () ()) D () ()) D () () := cv_e s d str
theorem ops_nilH {Q : Env → Hp → Prop} : VCopsH Γ n ops [] Q T L () () () () () = Q T L := ops_nil 
theorem ops_consH {Q : Env → Hp → Prop} (o : Oper) (r : List Oper) : VCopsH Γ n ops (o :: r) Q T L () () () () () = guardVCH ops o.guard T (fun T => VCH Γ o T L (fun v L => putVCH n o.dst v T (fun T => VCopsH Γ n ops r Q T L () () () () ()) () ()) () () () ()) (fun T => putVCH n o.dst undef T (fun T => VCopsH Γ n ops r Q T L () () () () ()) () ()) () () () () := ops_cons o r
theorem qops_nilH {Q : Env → Prop} : VQopsH Γ n ops L [] Q T () () () () () = Q T := qops_nil 
theorem qops_consH {Q : Env → Prop} (o : Oper) (r : List Oper) : VQopsH Γ n ops L (o :: r) Q T () () () () () = guardVCH ops o.guard T (fun T => VQH Γ o T L (fun v => putVCH n o.dst v T (fun T => VQopsH Γ n ops L r Q T () () () () ()) () ()) () () () ()) (fun T => putVCH n o.dst undef T (fun T => VQopsH Γ n ops L r Q T () () () () ()) () ()) () () () () := qops_cons o r
theorem ld_eH : ldVCH Γ t (.pointer (some ad)) L K D () () () = loadVCH Γ t L ad K () () := ld_e 
theorem st_eH (v : Value) : stVCH Γ t (.pointer (some ad)) v L K3 D () () () = storeVCH Γ t ad v L K3 () () := st_e v
theorem call_eH (f : FuncId) (fi ca as_ : Array Value) : callVCH Γ (.func (.func f) fi ca) as_ L K2 D () () () = (callable Γ.P f = true ∧ SCall Γ f ((fi ++ as_ ++ ca)) L (fun v L => stK (K2 v L) ())) := call_e f fi ca as_
theorem qcall_eH (f : FuncId) (fi ca as_ : Array Value) : qcallVCH Γ (.func (.func f) fi ca) as_ L K D () () () = (callable Γ.P f = true ∧ ∃ v, SCall Γ f ((fi ++ as_ ++ ca)) L (fun v' L' => v' = v ∧ L' = L) ∧ stK (K v) ()) := qcall_e f fi ca as_
theorem eqla_eH {k : TypeId} (x y : Array Value) : binVCH P .eql k (.agg x) (.agg y) K D () () = aggEqH P k x y (fun r => stK (K (.bool r)) ()) () := eqla_e x y
theorem neqa_eH {k : TypeId} (x y : Array Value) : binVCH P .neq k (.agg x) (.agg y) K D () () = aggEqH P k x y (fun r => stK (K (.bool (!r))) ()) () := neqa_e x y
theorem rg_eH (s : ByteArray) : rgVCH Γ t (.string s) L K2 D () () () = (Γ.P.underlying t = some .string ∧ ∀ b, stK (K2 (.pointer (some ⟨b, 0, none⟩)) (some (b, .stringIter s 0) :: L)) ()) := rg_e s
theorem nx_eH (b : Nat) : nxVCH (.pointer (some ⟨b, 0, none⟩)) L K2 D () () () = ∃ (i : Nat) (s : ByteArray) (pos : Nat), L[i]? = some (some (b, .stringIter s pos)) ∧ if pos < s.size then stK (K2 (.tuple #[.bool true, .int .i64 pos, .int .i32 (Utf8.decode s pos).1]) (L.set i (some (b, .stringIter s (pos + (Utf8.decode s pos).2))))) () else stK (K2 (.tuple #[.bool false]) L) () := nx_e b
theorem mu_eH (r : Nat) (x y : Value) : muVCH Γ t (.map (some r)) x y L K3 D () () () = ∃ kd z, mapT Γ.P t = some (kd, z) ∧ ∃ (i : Nat) (es : List MapEntry) (ck : Nat), L[i]? = some (some (r, .map es.toArray ck)) ∧ ∃ fr, Instr.findNow kd x es 0 = some fr ∧ stK (K3 (L.set i (some (r, mapPut es ck x y fr)))) () := mu_e r x y
theorem istr_eH (s : ByteArray) : indexVCH P t (.string s) (.int k a) K D () () = (P.underlying t = some .string ∧ 0 ≤ a ∧ ∃ b : UInt8, s.data.toList[a.toNat]? = some b ∧ stK (K (.int .u8 (b.toNat : Int))) ()) := istr_e s
theorem store_eH {t : TypeId} {v : Value} : storeVCH Γ t ad v L K3 () () = ((szA Γ.P t).map (·.1) = some v.cells.size ∧ oneB v.cells.toList = true ∧ ad.spot = none ∧ ∃ (i : Nat) (cs : List Value) (t' : TypeId) (fr : Nat × Nat), L[i]? = some (some (ad.block, .cells cs.toArray t' fr)) ∧ ad.off + v.cells.size ≤ cs.length ∧ (ad.off + v.cells.size ≤ fr.1 ∨ fr.2 ≤ ad.off) ∧ stK (K3 (L.set i (some (ad.block, .cells (setN cs ad.off v.cells.toList).toArray t' fr)))) ()) := store_e 
end
section
variable {P : Program} {Γ : Ctx} {t : TypeId} {k k' : IntKind} {a b : Int} {K : Value → Prop} {D : Prop} {L : Hp} {ad : Addr} {K2 : Value → Hp → Prop} {D1 D2 : Prop}
theorem bin_addH : binVCH P .add t (.int k a) (.int k' b) K D () () = (k = k' ∧ K (.int k (k.wrap (a + b)))) := bin_add 
theorem bin_subH : binVCH P .sub t (.int k a) (.int k' b) K D () () = (k = k' ∧ K (.int k (k.wrap (a - b)))) := bin_sub 
theorem bin_mulH : binVCH P .mul t (.int k a) (.int k' b) K D () () = (k = k' ∧ K (.int k (k.wrap (a * b)))) := bin_mul 
theorem bin_quoH : binVCH P .quo t (.int k a) (.int k' b) K D () () = (k = k' ∧ b ≠ 0 ∧ K (.int k (k.wrap (a.tdiv b)))) := bin_quo 
theorem bin_remH : binVCH P .rem t (.int k a) (.int k' b) K D () () = (k = k' ∧ b ≠ 0 ∧ K (.int k (a.tmod b))) := bin_rem 
theorem bin_andH : binVCH P .and t (.int k a) (.int k' b) K D () () = (k = k' ∧ K (.int k (bits .and k a b))) := bin_and 
theorem bin_orH : binVCH P .or t (.int k a) (.int k' b) K D () () = (k = k' ∧ K (.int k (bits .or k a b))) := bin_or 
theorem bin_xorH : binVCH P .xor t (.int k a) (.int k' b) K D () () = (k = k' ∧ K (.int k (bits .xor k a b))) := bin_xor 
theorem bin_andNotH : binVCH P .andNot t (.int k a) (.int k' b) K D () () = (k = k' ∧ K (.int k (bits .andNot k a b))) := bin_andNot 
theorem bin_shlH : binVCH P .shl t (.int k a) (.int k' b) K D () () = (0 ≤ b ∧ K (.int k (k.wrap (a * 2 ^ (min b.toNat k.bits))))) := bin_shl 
theorem bin_shrH : binVCH P .shr t (.int k a) (.int k' b) K D () () = (0 ≤ b ∧ K (.int k (a.fdiv (2 ^ (min b.toNat k.bits))))) := bin_shr 
theorem bin_eqlH : binVCH P .eql t (.int k a) (.int k' b) K D () () = (k = k' ∧ K (.bool (decide (a = b)))) := bin_eql 
theorem bin_neqH : binVCH P .neq t (.int k a) (.int k' b) K D () () = (k = k' ∧ K (.bool (!decide (a = b)))) := bin_neq 
theorem bin_lssH : binVCH P .lss t (.int k a) (.int k' b) K D () () = (k = k' ∧ K (.bool (decide (a < b)))) := bin_lss 
theorem bin_leqH : binVCH P .leq t (.int k a) (.int k' b) K D () () = (k = k' ∧ K (.bool (decide (a ≤ b)))) := bin_leq 
theorem bin_gtrH : binVCH P .gtr t (.int k a) (.int k' b) K D () () = (k = k' ∧ K (.bool (decide (b < a)))) := bin_gtr 
theorem bin_geqH : binVCH P .geq t (.int k a) (.int k' b) K D () () = (k = k' ∧ K (.bool (decide (b ≤ a)))) := bin_geq 
theorem bin_eqlbH (x y : Bool) : binVCH P .eql t (.bool x) (.bool y) K D () () = (P.underlying t = some .bool ∧ K (.bool (x == y))) := bin_eqlb x y
theorem bin_neqbH (x y : Bool) : binVCH P .neq t (.bool x) (.bool y) K D () () = (P.underlying t = some .bool ∧ K (.bool (!(x == y)))) := bin_neqb x y
theorem bin_addsH (x y : ByteArray) : binVCH P .add t (.string x) (.string y) K D () () = (x.size + y.size ≤ 9223372036854775807 ∧ K (.string (x ++ y))) := bin_adds x y
theorem bin_eqlsH (x y : ByteArray) : binVCH P .eql t (.string x) (.string y) K D () () = K (.bool (decide (x = y))) := bin_eqls x y
theorem bin_neqsH (x y : ByteArray) : binVCH P .neq t (.string x) (.string y) K D () () = K (.bool (!decide (x = y))) := bin_neqs x y
theorem bin_eqlpnH {p : Option Addr} : binVCH P .eql t (.pointer p) (.pointer none) K D () () = (ptB P t = true ∧ K (.bool p.isNone)) := bin_eqlpn 
theorem bin_neqpnH {p : Option Addr} : binVCH P .neq t (.pointer p) (.pointer none) K D () () = (ptB P t = true ∧ K (.bool (!p.isNone))) := bin_neqpn 
theorem bin_eqlppH {p q : Addr} : binVCH P .eql t (.pointer (some p)) (.pointer (some q)) K D () () = (ptB P t = true ∧ p = q ∧ K (.bool true)) := bin_eqlpp 
theorem bin_neqppH {p q : Addr} : binVCH P .neq t (.pointer (some p)) (.pointer (some q)) K D () () = (ptB P t = true ∧ p = q ∧ K (.bool false)) := bin_neqpp 
theorem bin_eqlsnH {p : Option Addr} {n c : Nat} : binVCH P .eql t (.slice p n c) (.slice none 0 0) K D () () = ((elS P t).isSome = true ∧ K (.bool p.isNone)) := bin_eqlsn 
theorem bin_neqsnH {p : Option Addr} {n c : Nat} : binVCH P .neq t (.slice p n c) (.slice none 0 0) K D () () = ((elS P t).isSome = true ∧ K (.bool (!p.isNone))) := bin_neqsn 
theorem un_notH (x : Bool) : unVCH .not (.bool x) K D () () = K (.bool (!x)) := un_not x
theorem un_negH : unVCH .neg (.int k a) K D () () = K (.int k (k.wrap (0 - a))) := un_neg 
theorem un_xorH : unVCH .xor (.int k a) K D () () = K (.int k (bits .xor k (if k.signed then -1 else k.max) a)) := un_xor 
theorem pick_boolH (c : Bool) (x y : Value) : pickVCH (.bool c) x y K D () () = K (if c then x else y) := pick_bool c x y
theorem nil_ptrH : nilVCH (.pointer (some ad)) K D () () = K (.pointer (some ad)) := nil_ptr 
theorem min_intH : minVCH (.int k a) (.int k' b) K D () () = K (.int k (if b < a then b else a)) := min_int 
theorem max_intH : maxVCH (.int k a) (.int k' b) K D () () = K (.int k (if b > a then b else a)) := max_int 
theorem len_sliceH (base : Option Addr) (n c : Nat) : lenVCH P t (.slice base n c) K D () () = ((elS P t).isSome = true ∧ K (.int .i64 n)) := len_slice base n c
theorem len_strH (s : ByteArray) : lenVCH P t (.string s) K D () () = (P.underlying t = some .string ∧ K (.int .i64 s.size)) := len_str s
theorem cap_sliceH (base : Option Addr) (n c : Nat) : capVCH P t (.slice base n c) K D () () = ((elS P t).isSome = true ∧ K (.int .i64 c)) := cap_slice base n c
theorem lk_mapH (r : Nat) (x : Value) (ok : Bool) : lkVCH Γ t (.map (some r)) x ok L K D () () () = ∃ kd z, mapT Γ.P t = some (kd, z) ∧ ∃ (i : Nat) (es : List MapEntry) (ck : Nat), L[i]? = some (some (r, .map es.toArray ck)) ∧ ∃ fr, Instr.findNow kd x es 0 = some fr ∧ fndKH z ok fr K () := lk_map r x ok
theorem lk_nilH (x : Value) (ok : Bool) : lkVCH Γ t (.map none) x ok L K D () () () = ∃ kd z, mapT Γ.P t = some (kd, z) ∧ fndKH z ok none K () := lk_nil x ok
theorem fnd_someH (z : Option Value) (ok : Bool) (i : Nat) (v : Value) : fndKH z ok (some (i, v)) K () = K (if ok then .tuple #[v, .bool true] else v) := fnd_some z ok i v
theorem cv_intH (s d : TypeId) : cvVCH Γ s d (.int k a) L K2 D D2 () () () () = D2 := cv_int s d
theorem cv_sliceH (s d : TypeId) (A : Option Addr) (n c : Nat) : cvVCH Γ s d (.slice A n c) L K2 D D2 () () () () = D2 := cv_slice s d A n c
theorem fnd_noneH (z : Value) (ok : Bool) : fndKH (some z) ok none K () = K (if ok then .tuple #[z, .bool false] else z) := fnd_none z ok
theorem loadN_zH (i : Nat) (acc : List Value) : loadNH Γ L ad i 0 acc K () () = K (.agg acc.toArray) := rfl
theorem loadN_sH (i n : Nat) (acc : List Value) : loadNH Γ L ad i (n + 1) acc K () () = ∃ v, Cell Γ L (ad.add i) v ∧ loadNH Γ L ad (i + 1) n (acc ++ [v]) K () () := rfl
theorem ldV_H {v : Value} : ldVC Γ t v L K D = ldVCH Γ t v L K D () () () := rfl
theorem ops_H {n : Nat} {ops : Array Oper} {l : List Oper} {Q : Env → Hp → Prop} {T : Env} : VCops Γ n ops l Q T L = VCopsV Γ n ops l Q T L () () () () := rfl
theorem opsV_H {n : Nat} {ops : Array Oper} {l : List Oper} {Q : Env → Hp → Prop} {T : Env} : VCopsV Γ n ops l Q T L () () () () = VCopsH Γ n ops l Q T L () () () () () := rfl
theorem qopsV_H {n : Nat} {ops : Array Oper} {l : List Oper} {Q : Env → Prop} {T : Env} : VQopsV Γ n ops L l Q T () () () () = VQopsH Γ n ops L l Q T () () () () () := rfl
theorem qops_H {n : Nat} {ops : Array Oper} {l : List Oper} {Q : Env → Prop} {T : Env} : VQops Γ n ops L l Q T = VQopsV Γ n ops L l Q T () () () () := rfl
theorem plan_H {n : Nat} {ops : Array Oper} {G : Hp → Hp} {pl : List (Nat × Kd)} {Q : Env → Hp → Prop} {T : Env} : VCplan Γ n ops G pl Q T L = VCplanH Γ n ops G pl Q T L () () () () () := rfl
end
end Go.SX
/-! The words of the walk in one set. -/
namespace Go.SX
open Go.RowKit
theorem w32 {n : Int} (h : -2147483648 ≤ n ∧ n ≤ 2147483647) : IntKind.i32.wrap n = n := by rw [IntKind.wrap_i32]; omega
theorem wu32 {n : Int} (h : 0 ≤ n ∧ n ≤ 4294967295) : IntKind.u32.wrap n = n := by rw [IntKind.wrap_u32]; omega
theorem wu64 {n : Int} (h : 0 ≤ n ∧ n ≤ 18446744073709551615) : IntKind.u64.wrap n = n := by rw [IntKind.wrap_u64]; omega
theorem ltT {a b : Int} (h : a < b) : (a < b) = True := eq_true h
theorem ltF {a b : Int} (h : ¬ a < b) : (a < b) = False := eq_false h
theorem leT {a b : Int} (h : a ≤ b) : (a ≤ b) = True := eq_true h
theorem leF {a b : Int} (h : ¬ a ≤ b) : (a ≤ b) = False := eq_false h
theorem eqT {a b : Int} (h : a = b) : (a = b) = True := eq_true h
theorem eqF {a b : Int} (h : ¬ a = b) : (a = b) = False := eq_false h
attribute [go_sem] ldV_H VQ_moveH VC_moveH VQ_assignH VC_assignH VQ_pickH VC_pickH VQ_loadH VC_loadH VQ_nilCheckH VC_nilCheckH VQ_unOpH VC_unOpH VQ_binOpH VC_binOpH VQ_makeFuncH VC_makeFuncH VQ_fieldAddrH VC_fieldAddrH VQ_fieldH VC_fieldH VQ_indexAddrH VC_indexAddrH VQ_indexH VC_indexH VQ_sliceH VC_sliceH VQ_extractH VC_extractH VQ_buildH VC_buildH VQ_lookupH VC_lookupH VQ_lenH VC_lenH VQ_capH VC_capH VQ_minH VC_minH VQ_maxH VC_maxH VQ_convertH VQ_callH VC_allocH VC_boxH VC_storeH VC_buildSliceH VC_makeSliceH VC_rangeH VC_nextH VC_makeMapH VC_mapUpdateH VC_insertH VC_convertH VC_appendH VC_copyH VC_callH loadVC_eH plan_nilH plan_qH plan_cH plan_eH plan_tH ops_nilH ops_consH qops_nilH qops_consH ops_H qops_H plan_H opsV_H qopsV_H upd_app env0_zero env0_succ env0_nil ev andThen_normal andThen_ret andThen_exit inBlk_normal inBlk_ret inBlk_exit if_true if_false Bool.not_true Bool.not_false Bool.false_eq_true Bool.true_eq_false true_and and_true false_and and_false true_implies forall_const false_implies ne_eq not_true_eq_false not_false_eq_true decide_true decide_false and_self true_or or_true dite_true dite_false Bool.not_eq_true' Bool.not_eq_false' decide_eq_true_eq decide_eq_false_iff_not Decidable.not_not Bool.not_eq_true Bool.not_eq_false Int.natCast_inj beq_self_eq_true Bool.and_true Bool.true_and Bool.and_self Bool.and_false Bool.false_and eq_self less_refl_t less_drop_t Option.map_some Option.map_none Option.bind_some Option.bind_none Option.isSome_some Option.isSome_none Option.some.injEq List.getElem?_cons_zero List.getElem?_cons_succ List.getElem?_nil List.getElem?_toArray List.map_cons List.map_nil List.map_toArray List.toList_toArray List.append_toArray List.nil_append List.cons_append List.append_nil List.flatMap_cons List.flatMap_nil List.length_cons List.length_nil List.set_cons_zero List.set_cons_succ List.drop_zero List.drop_succ_cons List.take_succ_cons List.take_zero List.size_toArray Nat.add_zero Nat.zero_add Nat.mul_one exists_const Nat.zero_le Nat.le_refl Int.toNat_natCast Int.toNat_zero Int.toNat_one cells_int cells_bool cells_string cells_pointer cells_slice cells_agg oneB_nil oneB_cons one_int one_bool one_string one_pointer one_slice one_map one_func one_nilFunc one_nilIface one_iface cells_map cells_func cells_nilFunc cells_nilIface cells_iface optI placeL setN store_eH inOrd catV bin_addH bin_subH bin_mulH bin_quoH bin_remH bin_andH bin_orH bin_xorH bin_andNotH bin_shlH bin_shrH bin_eqlH bin_neqH bin_lssH bin_leqH bin_gtrH bin_geqH bin_eqlbH bin_neqbH bin_addsH bin_eqlsH bin_neqsH un_notH un_negH un_xorH pick_boolH nil_ptrH min_intH max_intH istr_eH len_sliceH len_strH cap_sliceH cv_intH cv_sliceH kbits_u8 kbits_u16 kbits_i64 kbits_u64 part_eH fa_eH field_eH index_eH ext_eH ia_anyH ia_ptrH intD_intH conv_eH sl_strH sl_slH sl_arr0H sl_arr1H build_eH mk_eH cv_eH oM_someH oM_noneH gB_boolH guard_noneH guard_someH put_noneH put_someH strD_stringH box_eH bs_eH cvD_sliceH cvD_stringH ld_eH st_eH call_eH qcall_eH rg_eH nx_eH mu_eH lk_mapH lk_nilH fnd_someH fnd_noneH bin_eqlpnH bin_neqpnH bin_eqlppH bin_neqppH bin_eqlsnH bin_neqsnH eqla_eH neqa_eH Option.isNone_some Option.isNone_none evP_nil evP_cons fillK_nilH fillK_consH id_eq loadN_sH
attribute [go_sem] add_addS wu8 wu16 w32 wu32 wu64 w64 ltT ltF leT leF eqT eqF loadN_zH loadN_sH
attribute [go_sem] Nat.reduceEqDiff Nat.reduceBEq reduceCtorEq Int.reduceEq Nat.reduceLT Nat.reduceLeDiff Nat.reduceAdd Nat.reduceMul Nat.reduceSub Int.reduceToNat Int.reduceLT Int.reduceLE Int.reduceAdd Int.reduceSub Int.reduceMul Int.reduceNeg Nat.reducePow Int.reducePow
attribute [go_sem ↓] reduceIte
end Go.SX
namespace Go.Proofs.YtcenlgofldnfcaaDoor
attribute [go_sem] T.szA_1 T.zr_1 Tryd.underlying1 T.szA_2 T.zr_2 Tryd.underlying2 T.szA_3 T.zr_3 Tryd.underlying3 T.szA_4 T.zr_4 Tryd.underlying4 T.szA_5 T.zr_5 Tryd.underlying5 T.szA_6 T.zr_6 Tryd.underlying6 T.szA_7 T.zr_7 T.lay_7 T.elA_7 Tryd.underlying7 T.szA_8 T.zr_8 T.lay_8 T.elA_8 Tryd.underlying8 T.szA_9 T.zr_9 Tryd.underlying9 T.szA_10 T.zr_10 Tryd.underlying10 T.szA_11 T.zr_11 Tryd.underlying11 T.szA_12 T.zr_12 Tryd.underlying12 T.szA_13 T.zr_13 T.lay_13 T.elA_13 Tryd.underlying13 T.szA_14 T.zr_14 T.lay_14 T.elA_14 Tryd.underlying14 T.szA_15 T.zr_15 T.ptB_15 Tryd.underlying15 T.szA_16 T.zr_16 T.ptB_16 Tryd.underlying16 T.szA_17 T.zr_17 T.ptB_17 Tryd.underlying17 T.szA_18 T.zr_18 T.lay_18 T.elA_18 Tryd.underlying18 T.szA_19 T.zr_19 T.lay_19 T.elA_19 Tryd.underlying19 T.szA_20 T.zr_20 Tryd.underlying20 T.szA_21 T.zr_21 Tryd.underlying21 T.szA_22 T.zr_22 Tryd.underlying22 T.szA_23 T.zr_23 T.elS_23 Tryd.underlying23 T.szA_24 T.zr_24 Tryd.underlying24 T.szA_25 T.zr_25 Tryd.underlying25 T.szA_27 T.zr_27 Tryd.underlying27 T.szA_28 T.zr_28 Tryd.underlying28 T.szA_29 T.zr_29 Tryd.underlying29 T.szA_30 T.zr_30 T.elS_30 Tryd.underlying30 T.szA_32 T.zr_32 Tryd.underlying32 T.szA_33 T.zr_33 Tryd.underlying33 T.szA_35 T.zr_35 Tryd.underlying35 T.szA_36 T.zr_36 Tryd.underlying36 T.szA_37 T.zr_37 Tryd.underlying37 T.szA_38 T.zr_38 Tryd.underlying38 T.szA_39 T.zr_39 Tryd.underlying39 T.szA_40 T.zr_40 Tryd.underlying40 T.szA_41 T.zr_41 Tryd.underlying41 T.szA_42 T.zr_42 Tryd.underlying42 T.szA_43 T.zr_43 Tryd.underlying43 T.szA_44 T.zr_44 Tryd.underlying44 T.szA_45 T.zr_45 T.lay_45 T.elA_45 Tryd.underlying45 T.szA_46 T.zr_46 T.lay_46 T.elA_46 Tryd.underlying46 T.szA_47 T.zr_47 Tryd.underlying47 T.szA_48 T.zr_48 T.ptB_48 Tryd.underlying48 T.szA_49 T.zr_49 T.lay_49 T.elA_49 Tryd.underlying49 T.szA_50 T.zr_50 T.lay_50 T.elA_50 Tryd.underlying50 T.szA_51 T.zr_51 Tryd.underlying51 T.szA_52 T.zr_52 Tryd.underlying52 T.szA_54 T.zr_54 Tryd.underlying54 T.szA_55 T.zr_55 Tryd.underlying55 T.szA_56 T.zr_56 Tryd.underlying56 T.szA_57 T.zr_57 Tryd.underlying57 T.szA_58 T.zr_58 Tryd.underlying58 T.szA_59 T.zr_59 Tryd.underlying59 T.szA_60 T.zr_60 Tryd.underlying60 T.szA_61 T.zr_61 Tryd.underlying61 T.szA_62 T.zr_62 Tryd.underlying62 T.szA_64 T.zr_64 T.ptB_64 Tryd.underlying64 T.szA_65 T.zr_65 T.lay_65 T.elA_65 Tryd.underlying65 T.szA_66 T.zr_66 T.lay_66 T.elA_66 Tryd.underlying66 T.szA_67 T.zr_67 Tryd.underlying67 T.szA_68 T.zr_68 Tryd.underlying68 T.szA_70 T.zr_70 Tryd.underlying70 T.szA_72 T.zr_72 Tryd.underlying72 T.szA_74 T.zr_74 Tryd.underlying74 T.szA_75 T.zr_75 T.elS_75 Tryd.underlying75 T.szA_77 T.zr_77 Tryd.underlying77 T.szA_78 T.zr_78 Tryd.underlying78 T.szA_79 T.zr_79 T.elS_79 Tryd.underlying79 T.szA_80 T.zr_80 Tryd.underlying80 T.szA_81 T.zr_81 T.lay_81 T.elA_81 Tryd.underlying81 T.szA_82 T.zr_82 T.lay_82 T.elA_82 Tryd.underlying82 T.szA_83 T.zr_83 Tryd.underlying83 T.szA_84 T.zr_84 T.ptB_84 Tryd.underlying84 T.szA_85 T.zr_85 Tryd.underlying85 T.szA_86 T.zr_86 Tryd.underlying86 T.szA_87 T.zr_87 Tryd.underlying87 T.szA_88 T.zr_88 Tryd.underlying88 T.szA_89 T.zr_89 T.elA_89 T.lay_89 Tryd.underlying89 T.szA_90 T.zr_90 Tryd.underlying90 T.szA_92 T.zr_92 Tryd.underlying92 T.szA_93 T.zr_93 Tryd.underlying93 T.szA_94 T.zr_94 Tryd.underlying94 T.szA_95 T.zr_95 Tryd.underlying95 T.szA_96 T.zr_96 Tryd.underlying96 T.szA_97 T.zr_97 Tryd.underlying97 T.szA_98 T.zr_98 Tryd.underlying98 T.szA_99 T.zr_99 Tryd.underlying99 T.szA_100 T.zr_100 Tryd.underlying100 T.szA_101 T.zr_101 Tryd.underlying101 T.szA_102 T.zr_102 Tryd.underlying102 T.szA_103 T.zr_103 Tryd.underlying103 T.szA_104 T.zr_104 Tryd.underlying104 T.szA_106 T.zr_106 Tryd.underlying106 T.szA_108 T.zr_108 Tryd.underlying108 T.szA_109 T.elA_109 T.lay_109 Tryd.underlying109 T.szA_110 T.zr_110 T.lay_110 T.elA_110 Tryd.underlying110 T.szA_111 T.zr_111 T.lay_111 T.elA_111 Tryd.underlying111 T.szA_112 T.zr_112 T.elA_112 T.lay_112 Tryd.underlying112 T.szA_113 T.zr_113 T.lay_113 T.elA_113 Tryd.underlying113 T.szA_114 T.zr_114 T.lay_114 T.elA_114 Tryd.underlying114 T.szA_115 T.zr_115 T.elA_115 T.lay_115 Tryd.underlying115 T.szA_116 T.zr_116 T.lay_116 T.elA_116 Tryd.underlying116 T.szA_117 T.zr_117 T.lay_117 T.elA_117 Tryd.underlying117 T.szA_118 T.zr_118 Tryd.underlying118 T.szA_119 T.zr_119 Tryd.underlying119 T.szA_120 T.zr_120 Tryd.underlying120 T.szA_121 T.zr_121 Tryd.underlying121 T.szA_122 T.zr_122 Tryd.underlying122 T.szA_123 T.zr_123 T.lay_123 T.elA_123 Tryd.underlying123 T.szA_124 T.zr_124 T.lay_124 T.elA_124 Tryd.underlying124 T.callable_2 T.callable_3 T.callable_4 T.callable_5 T.callable_6 T.callable_7 T.callable_8 T.callable_9 T.callable_10 T.callable_11 T.callable_12 T.callable_13 T.callable_14 T.callable_15 T.callable_16 T.callable_17 T.callable_18 T.callable_19 T.callable_20 T.callable_21 T.callable_22 T.callable_23 T.callable_24 T.callable_25 T.callable_26 T.callable_27 T.callable_28 T.callable_29 T.callable_30 T.callable_31 T.callable_32 T.callable_33 T.callable_34 T.callable_35 T.callable_36 T.callable_37 T.callable_38 T.callable_39 T.callable_40 T.callable_41 T.callable_42 T.callable_43 T.callable_44 T.callable_45 T.callable_46 T.callable_47 T.callable_48 T.callable_49 T.callable_50 T.callable_51 T.callable_52 T.callable_53 T.callable_54 T.callable_55 T.callable_56 T.callable_58 T.callable_59 T.callable_60 T.callable_61 T.callable_62 T.callable_63 T.callable_64 T.callable_65 T.callable_66 T.callable_67 T.callable_68 T.callable_69 T.callable_70 T.callable_71 T.callable_72 T.callable_73 T.callable_74 T.callable_75 T.callable_77 T.callable_78 T.callable_79 T.callable_80 T.callable_81 T.callable_84 T.callable_85 T.callable_86 T.callable_88 T.callable_111
end Go.Proofs.YtcenlgofldnfcaaDoor
set_option linter.unusedVariables false
set_option linter.unusedSimpArgs false
/-! The last step of a law, the first world's shape being known (what the library's own variables hold). -/
namespace Go.SX
open Go.ChangeShapes Go.WideShapes Go.ChangeAt Go.RowKit
theorem law_lifted_shaped {H : Type} {enc : TypeId × Value → H} {C : Checked} {a : Assume} {os : Os} {f : FuncId} {fn : Func} {s : ChangeSpec} {conds : List PathCond} {apart : Bool} {tb : TypeId} {laid : List (String × DataW Unit)}
    (own : ownKnob C.prog.godebug = none) (started : os.Started) (noInit : C.prog.inits.idxOf? f = none) (hfn : C.prog.funcs[f]? = some fn)
    (witness : ∃ (w : World) (tape : Tape) (i : Input), w.os = os ∧ (w.forCall tape i).Shaped C.prog ∧ i.vars = [] ∧ Input.okWide C.prog (w.forCall tape i) .any w.heap.size f i ∧
      ((s.pre enc C.prog fn conds apart (w.forCall tape i).memory i.args ∧ laidMetH C.prog laid (w.forCall tape i).memory) ∧ sizedMet enc C.prog fn (OpenSpec.ofChange s) apart (w.forCall tape i).memory i.args) ∧ a.holds C.prog (lone (Frame.enter C.prog f i.args .normal) [] (w.forCall tape i)))
    (hv : s.vars = []) (hlaid : laidOutB C.prog = true) (hread : fn.params.toList.all (fun t => C.prog.readableRec t && decide (t < C.prog.types.size)) = true)
    (hres : fn.resultTypes = #[tb]) (htb : C.prog.underlying tb = some .bool)
    (hspec : ∀ ds : List (DataW H), ds.length = fn.params.toList.length → s.fn H ds = { results := [.lit (.bool true)], args := ds, vars := [] })
    (hwalk : ∀ (W : World) (base : Nat) (args : Array Value) (ds : List (DataW H)) (p : List MemPlace), (∀ (j : Nat) t v, fn.params[j]? = some t → args[j]? = some v → Value.okWide C.prog W .any base t v) → laidMetH C.prog laid W → W.ShapedOpen C.prog →
      DataW.TrodAll enc C.prog W 0 (fun _ => true) true fn.params.toList args.toList ds p → Calls C.prog f args W fun e W' => e = .returned (.bool true) ∧ Below W.heap.size W W') :
    ReturnsInHanded a C os f .any (fun w args => (s.pre enc C.prog fn conds apart w args ∧ laidMetH C.prog laid w) ∧ sizedMet enc C.prog fn (OpenSpec.ofChange s) apart w args) (s.post enc C.prog fn apart true false false) := by
  refine returnsInHanded_of_calls own started noInit witness ?_
  intro w tape i _ hsh _ hok hpre hholds
  obtain ⟨_, _, _, fn', hfn', _, _, _, _, hval⟩ := hok
  have e : fn' = fn := Option.some.inj (hfn'.symm.trans hfn)
  subst e
  obtain ⟨⟨⟨ds, gs, before, hw, hc⟩, hx⟩, hz⟩ := hpre
  have hw' := DataW.Whole.of_heap (w' := w.forCall tape i) (by rfl) hw
  refine (law_contract hv hlaid hread hres htb hspec hw' fun p hA => hwalk (w.forCall tape i) w.heap.size i.args ds p hval (hx.of_heap (by rfl)) hsh hA).mono fun e W' ⟨v, he, hp⟩ => ?_
  subst he
  exact ChangeSpec.post_blind hp
/-- A contract of the library's, in the words of the walk: the world as it was. -/
theorem SCall.of_calls {Γ : Ctx} {f : FuncId} {args : Array Value} {L : Hp} {v : Value} (h : ∀ w, Inv Γ L w → Calls Γ.P f args w fun e w' => e = .returned v ∧ ∃ n, w' = w.drewN n) : SCall Γ f args L (fun v' L' => v' = v ∧ L' = L) := fun w hi =>
  (h w hi).mono fun e w' ⟨he, n, hw⟩ => ⟨v, L, he, hw ▸ hi.drewN n, rfl, rfl⟩
theorem SCall.of_calls_eq {Γ : Ctx} {f : FuncId} {args : Array Value} {L : Hp} {v : Value} (h : ∀ w, Inv Γ L w → Calls Γ.P f args w fun e w' => e = .returned v ∧ w' = w) : SCall Γ f args L (fun v' L' => v' = v ∧ L' = L) := fun w hi =>
  (h w hi).mono fun e w' ⟨he, hw⟩ => ⟨v, L, he, hw ▸ hi, rfl, rfl⟩
/-- .. a world that has grown. -/
theorem SCall.of_below {Γ : Ctx} {f : FuncId} {args : Array Value} {L : Hp} {v : Value} (h : ∀ w, Inv Γ L w → Calls Γ.P f args w fun e w' => e = .returned v ∧ Below w.heap.size w w') : SCall Γ f args L (fun v' L' => v' = v ∧ L' = L) := fun w hi =>
  (h w hi).mono fun e w' ⟨he, hw⟩ => ⟨v, L, he, hi.of_below hw, rfl, rfl⟩
/-- .. one block more, which the result shows. -/
theorem SCall.of_alloc {Γ : Ctx} {f : FuncId} {args : Array Value} {L : Hp} {o : Obj} {n c : Nat} (h : ∀ w, Inv Γ L w → Calls Γ.P f args w fun e w' => e = .returned (.slice (some ⟨w.heap.size, 0, none⟩) n c) ∧ w' = w.alloc o) :
    SCall Γ f args L (fun v L' => ∃ b, v = .slice (some ⟨b, 0, none⟩) n c ∧ L' = some (b, o) :: L) := fun w hi =>
  (h w hi).mono fun e w' ⟨he, hw⟩ => ⟨_, _, he, hw ▸ hi.alloc o, _, rfl, rfl⟩
theorem Cell.w0 {Γ : Ctx} {L : Hp} {w : World} {a : Addr} {v : Value} (ho : a.block ∉ Γ.own) (h : Γ.w0.cell? a = some v) (hi : Inv Γ L w) : w.cell? a = some v := (Cell.old (L := L) ho h).real hi
end Go.SX
set_option linter.unusedVariables false
set_option linter.unusedSimpArgs false
/-! A scope of labels to which nothing jumps. -/
namespace Go.SX
open Go.RowKit
def noGo (Q : Exit → Env → Hp → Prop) : Exit → Env → Hp → Prop
  | .goto _, _, _ => False
  | e, T, L => Q e T L
theorem SX.scope {Γ : Ctx} {n : Nat} {c : Code} {Q : Exit → Env → Hp → Prop} {T : Env} {L : Hp} (h : SX Γ n c (noGo Q) T L) : SX Γ n (.scope c) Q T L := fun ds a w hf hi => by
  refine wp_scope_straight (Code.wp_mono ?_ (h ds a w hf hi))
  rintro e a' w' ⟨T', L', h1, h2, h3⟩
  cases e <;> first | exact h3.elim | exact ⟨T', L', h1, h2, h3⟩
end Go.SX
set_option linter.unusedVariables false
set_option linter.unusedSimpArgs false
/-! Calls that return or panic; a region that panics; a function that defers a closure which recovers. -/
namespace Go.SX
open Go.RowKit

/-- A call that returns or panics. -/
def PCall (Γ : Ctx) (f : FuncId) (args : Array Value) (L : Hp) (R : Value → Hp → Prop) (RP : List PanicEntry → Hp → Prop) : Prop :=
  ∀ w, Inv Γ L w → Calls Γ.P f args w fun e w' => (∃ v L', e = .returned v ∧ Inv Γ L' w' ∧ R v L') ∨ (∃ ch L', e = .panicked ch ∧ Inv Γ L' w' ∧ RP ch L')
section
variable {Γ : Ctx} {n : Nat} {T : Env} {L : Hp} {Q : Exit → Env → Hp → Prop} {f : FuncId} {args : Array Value}
theorem PCall.mono {R R' : Value → Hp → Prop} {RP RP' : List PanicEntry → Hp → Prop} (h : PCall Γ f args L R RP) (hr : ∀ v L, R v L → R' v L) (hp : ∀ ch L, RP ch L → RP' ch L) : PCall Γ f args L R' RP' :=
  fun w hi => (h w hi).mono fun _ _ hx => hx.elim (fun ⟨v, L', h1, h2, h3⟩ => .inl ⟨v, L', h1, h2, hr _ _ h3⟩) (fun ⟨ch, L', h1, h2, h3⟩ => .inr ⟨ch, L', h1, h2, hp _ _ h3⟩)
theorem PCall.of {R : Value → Hp → Prop} {RP : List PanicEntry → Hp → Prop} (h : SCall Γ f args L R) : PCall Γ f args L R RP :=
  fun w hi => (h w hi).mono fun _ _ hx => .inl hx
theorem PCall.pre {L' : Hp} {R : Value → Hp → Prop} {RP : List PanicEntry → Hp → Prop} (hl : Less L L') (h : PCall Γ f args L' R RP) : PCall Γ f args L R RP :=
  fun w hi => h w (hl _ _ hi)

/-- Behind the body: the result, or the panic. -/
def retP (res : Env → Hp → Value → Prop) (R : Value → Hp → Prop) (RP : List PanicEntry → Hp → Prop) : Exit → Env → Hp → Prop
  | .normal, T, L | .ret, T, L => ∃ v L', Less L L' ∧ res T L v ∧ R v L'
  | .panic ch, _, L => ∃ L', Less L L' ∧ RP ch L'
  | _, _, _ => False
theorem retP_ret {res : Env → Hp → Value → Prop} {R : Value → Hp → Prop} {RP : List PanicEntry → Hp → Prop} : retP res R RP .ret T L = ∃ v L', Less L L' ∧ res T L v ∧ R v L' := rfl
theorem retP_panic {res : Env → Hp → Value → Prop} {R : Value → Hp → Prop} {RP : List PanicEntry → Hp → Prop} {ch : List PanicEntry} : retP res R RP (.panic ch) T L = ∃ L', Less L L' ∧ RP ch L' := rfl
theorem PCall.enter {fn : Func} {c : Code} {args : List Value} {R : Value → Hp → Prop} {RP : List PanicEntry → Hp → Prop} (res : Env → Hp → Value → Prop)
    (hf : Γ.P.funcs[f]? = some fn) (hb : fn.body = some c) (hn : fn.ntmps = n) (hle : args.length ≤ n)
    (hres : ∀ T L v a w, res T L v → Fits [] n T a → Inv Γ L w → (results fn a.tmps).run Γ.P w = .ok v w)
    (h : SX Γ n c (retP res R RP) (env0 args) L) : PCall Γ f args.toArray L R RP := fun w hi => by
  refine calls_of_wp hf hb (Code.wp_mono ?_ (h [] _ w ⟨?_, rfl, fun i => ?_⟩ hi))
  · rintro e a' w' ⟨T', L', h1, h2, h3⟩
    cases e with
    | normal => obtain ⟨v, L'', hs, hv, hr⟩ := h3; exact ⟨h1.2.1, v, hres _ _ _ _ _ hv h1 h2, .inl ⟨v, L'', rfl, hs _ _ h2, hr⟩⟩
    | ret => obtain ⟨v, L'', hs, hv, hr⟩ := h3; exact ⟨h1.2.1, v, hres _ _ _ _ _ hv h1 h2, .inl ⟨v, L'', rfl, hs _ _ h2, hr⟩⟩
    | panic ch => obtain ⟨L'', hs, hr⟩ := h3; exact ⟨h1.2.1, .inr ⟨ch, L'', rfl, hs _ _ h2, hr⟩⟩
    | exit => exact h3.elim
    | goto => exact h3.elim
    | outgrown => exact h3.elim
  · simp [hn]; omega
  · rw [env0_getD]
    simp only [Array.getD_eq_getD_getElem?, List.getD_eq_getElem?_getD]
    rw [Array.getElem?_append]
    split
    · simp
    · rename_i hge
      simp at hge
      rw [List.getElem?_eq_none hge]
      simp only [Array.getElem?_replicate]
      split <;> rfl

/-- What a call of a known function runs. -/
theorem run_call {o : Oper} {c : Call} {k : FuncId} (hop : o.op = .call c) (hcal : c.callee = .value (.func k)) (hc : callable Γ.P k = true) (w : World) :
    (execOp (ev T) o).run Γ.P w = .ok (.enter k (c.args.map (ev T))) w := by
  unfold callable at hc
  split at hc
  · rename_i fn hfn
    simp only [Bool.and_eq_true, Bool.not_eq_true', Option.isSome_iff_exists] at hc
    obtain ⟨⟨body, hb⟩, hn⟩ := hc
    simp [execOp, hop, resolve, hcal, ev, Deferred.ofValue, invoke, callFunc, hfn, (by simpa using hn : ¬ fn.name = "runtime.NumGoroutine"), hb]
  · cases hc
/-- A region's next operation is a call that may panic. -/
theorem RX.pcall {ops : Array Oper} {o : Oper} {rest : List Oper} {c : Call} {k : FuncId} {aq : Array Value} {R : Value → Hp → Prop} {RP : List PanicEntry → Hp → Prop} (hop : o.op = .call c) (hcal : c.callee = .value (.func k)) (hg : o.guard = none) (hc : callable Γ.P k = true)
    (hargs : c.args.map (ev T) = aq) (h : PCall Γ k aq L R RP) (hp : ∀ ch L', RP ch L' → Q (.panic ch) T L') (hk : ∀ v L', R v L' → putVC n o.dst v T (fun T' => RX Γ n ops rest Q T' L')) : RX Γ n ops (o :: rest) Q T L := fun ds a w hf hi => by
  subst hargs
  have hw : Region.wanted o (yielded ops a.tmps) = true := by unfold Region.wanted; rw [hg]
  simp only [wpList, hw, if_true]
  refine .inl ?_
  unfold Oper.wp
  rw [hf.eval, run_call hop hcal hc]
  refine Calls.mono (h w hi) ?_
  rintro e w' (⟨v, L', rfl, hi', hr⟩ | ⟨ch, L', rfl, hi', hr⟩)
  · obtain ⟨T', hf', hk'⟩ := putVC_sound hf (hk _ _ hr)
    exact hk' ds _ _ hf' hi'
  · exact ⟨T, L', hf, hi', hp _ _ hr⟩
def plainT (P : Program) (t : TypeId) : Bool := match P.underlying t with | some (.interface _) => false | some _ => true | none => false
theorem run_iface {P : Program} {t : TypeId} {v : Value} (h : plainT P t = true) (w : World) : (Instr.makeInterface t v).run P w = .ok (.iface t v) w := by
  unfold plainT at h
  split at h
  · cases h
  · rename_i u hu h1
    have hr : (underlying t).run P w = .ok u w := by simp [underlying, h1]
    unfold Instr.makeInterface
    simp only [Sem.run_bind, hr, Result.andThen_ok]
    rfl
  · cases h
theorem run_assert {P : Program} {t x : TypeId} {v : Value} (h : plainT P t = true) (w : World) : (Instr.typeAssert (.iface t v) x t true).run P w = .ok (.tuple #[v, .bool true]) w := by
  unfold plainT at h
  split at h
  · cases h
  · rename_i u hu h1
    have hr : (underlying t).run P w = .ok u w := by simp [underlying, h1]
    unfold Instr.typeAssert
    simp only [Sem.run_bind, hr, Result.andThen_ok]
    cases u <;> first | exact absurd rfl (hu _) | simp
  · cases h
/-- A region's next operation gives this value. -/
theorem RX.value {ops : Array Oper} {o : Oper} {rest : List Oper} {v : Value} (hg : o.guard = none) (hv : ∀ w, (execOp (ev T) o).run Γ.P w = .ok (.value v) w) (hk : putVC n o.dst v T (fun T' => RX Γ n ops rest Q T' L)) : RX Γ n ops (o :: rest) Q T L := fun ds a w hf hi => by
  have hw : Region.wanted o (yielded ops a.tmps) = true := by unfold Region.wanted; rw [hg]
  simp only [wpList, hw, if_true]
  refine .inl ?_
  unfold Oper.wp
  rw [hf.eval, hv]
  obtain ⟨T', hf', hk'⟩ := putVC_sound hf hk
  exact hk' ds _ _ hf' hi
/-- A region's next two operations: a value aq an interface, and the panic. -/
theorem RX.raise {ops : Array Oper} {o p : Oper} {rest : List Oper} {t : TypeId} {x : Operand} {d : Nat} (hop : o.op = .makeInterface t x) (hd : o.dst = some d) (hg : o.guard = none) (hp : p.op = .panic (.tmp d)) (hpg : p.guard = none) (ht : plainT Γ.P t = true) (hdn : d < n)
    (hq : Q (.panic [{ v := .iface t (ev T x), recovered := false }]) (upd T d (.iface t (ev T x))) L) : RX Γ n ops (o :: p :: rest) Q T L := fun ds a w hf hi => by
  have hw : Region.wanted o (yielded ops a.tmps) = true := by unfold Region.wanted; rw [hg]
  simp only [wpList, hw, if_true]
  refine .inl ?_
  unfold Oper.wp
  rw [hf.eval, show (execOp (ev T) o).run Γ.P w = .ok (.value (.iface t (ev T x))) w by simp [execOp, hop, run_iface ht]]
  have hw2 : Region.wanted p (yielded ops (a.put o.dst (.iface t (ev T x))).tmps) = true := by unfold Region.wanted; rw [hpg]
  have hf2 : Fits ds n (upd T d (.iface t (ev T x))) (a.put o.dst (.iface t (ev T x))) := by rw [hd]; exact hf.put hdn _
  show Oper.upon Γ.P o a _ _ (.ok (.value _) w)
  rw [Oper.upon_value]
  simp only [wpList, hw2, if_true]
  refine .inl ?_
  rw [hf2.eval, show (execOp (ev (upd T d (.iface t (ev T x)))) p).run Γ.P w = .halt (.panic (.iface t (ev T x))) w by simp [execOp, hp, ev, upd_same, Instr.panic, goPanic, Sem.run]]
  exact ⟨_, L, hf2, hi, hq⟩

/-! ### a region that draws its order, one of its operations a call that may panic, the others quiet and without memory -/
theorem AnyL_firstP {ops : Array Oper} {Q : Exit → Act → World → Prop} {tl : List Nat} {i : Nat} {oi : Oper} {v : Value} (hi : ops[i]? = some oi) (hsel : ∀ (j : Nat) (o : Oper) cs b, ops[j]? = some o → o.op ≠ .select cs b)
    (hQ : ∀ c (a : Act) w, Q (.panic c) (a.put oi.dst v) w → Q (.panic c) a w) (g : Nat) (htl : ∀ t ∈ tl, reach ops g t i = true) :
    ∀ (fuel : Nat) (listed : Array Bool) (M L : Hp) (a : Act), Closed ops listed →
      (∀ j oj, ops[j]? = some oj → j ≠ i → listed.getD j true = false → (∀ e ∈ oj.after, Region.binds .any e = true → e.on ≠ i) → oi.apart ops oj = true) →
      i ∈ Region.ready .any ops listed → StepV Γ ops Q i oi v M a → Less L M →
      AnyL Γ ops Q tl fuel (listed.setIfInBounds i true) M L (a.put oi.dst v) → AnyL Γ ops Q tl (fuel + 1) listed M L a := by
  intro fuel
  induction fuel with
  | zero =>
    intro listed M L a _ _ hr hy hl H
    refine ⟨fun h => (by rw [h] at hr; cases hr), fun j hj w hw => ?_⟩
    by_cases hji : j = i
    · subst hji; exact hy a ⟨rfl, rfl⟩ L w hl hw _ fun w' hw' => ⟨M, L, hw', hl, fun _ => Less.refl _, H⟩
    · have := ready_mono hj hji
      rw [H.1] at this
      cases this
  | succ fuel ih =>
    intro listed M L a hcl hfree hr hy hl H
    refine ⟨fun h => (by rw [h] at hr; cases hr), fun j hj w hw => ?_⟩
    have hun := (mem_ready.1 hr).1
    by_cases hji : j = i
    · subst hji; exact hy a ⟨rfl, rfl⟩ L w hl hw _ fun w' hw' => ⟨M, L, hw', hl, fun _ => Less.refl _, H⟩
    · have h1 := H.2 j (ready_mono hj hji) w hw
      obtain ⟨hjun, oj, hoj, hall⟩ := mem_ready.1 hj
      have hjt : j ∉ tl := fun ht => by
        have := reach_listed hcl g j oj hoj (htl j ht) hall
        rw [getD_both hun] at this
        cases this
      have hnot : ∀ e ∈ oj.after, Region.binds .any e = true → e.on ≠ i := fun e he hb heq => by
        have h1 := hall e he hb
        rw [heq, getD_both hun] at h1
        cases h1
      have h2 := wpOp_putS hoj (hfree j oj hoj hji hjun hnot) (fun cs b => hsel i oi cs b hi) (fun cs b => hsel j oj cs b hoj) hQ h1
      have hfree' : ∀ k ok, ops[k]? = some ok → k ≠ i → (listed.setIfInBounds j true).getD k true = false →
          (∀ e ∈ ok.after, Region.binds .any e = true → e.on ≠ i) → oi.apart ops ok = true := fun k ok hk hki hun hno => by
        refine hfree k ok hk hki ?_ hno
        by_cases hjk : j = k
        · subst hjk; exact hjun
        · rw [getD_set_ne true hjk] at hun; exact hun
      refine wpOp_mono (fun a' w' h3 => ?_) h2
      obtain ⟨hs, M', L', hi', hl', hsub, H'⟩ := h3
      refine ⟨M', L', hi', hl', hsub, ih (listed.setIfInBounds j true) M' L' a' (hcl.set hj) hfree' (ready_mono hr (Ne.symm hji)) (hy.same hs (hsub hjt)) hl' ?_⟩
      rw [Array.setIfInBounds_comm _ _ hji]
      exact H'


def okPP (ops : Array Oper) : List (Nat × Bool) → Array Bool → Bool
  | [], listed => (Region.ready .any ops listed).isEmpty
  | (k, false) :: r, listed => (Region.ready .any ops listed).contains k && Region.free .any ops listed k && notCall ops k && okPP ops r (listed.setIfInBounds k true)
  | (k, true) :: r, listed => decide (Region.ready .any ops listed = [k]) && okPP ops r (listed.setIfInBounds k true)
def callOf (o : Oper) : Option (FuncId × List Operand) := match o.op with
  | .call c => match c.callee with
    | .value (.func k) => some (k, c.args.toList)
    | _ => none
  | _ => none
theorem callOf_some {o : Oper} {k : FuncId} {aq : List Operand} (h : callOf o = some (k, aq)) : ∃ c, o.op = .call c ∧ c.callee = .value (.func k) ∧ c.args.toList = aq := by
  unfold callOf at h
  split at h
  · rename_i c hc
    split at h
    · rename_i k' hk
      cases h
      exact ⟨c, hc, hk, rfl⟩
    · cases h
  · cases h
def VCpp (Γ : Ctx) (n : Nat) (ops : Array Oper) (PP : List PanicEntry → Hp → Prop) : List (Nat × Bool) → (Env → Hp → Prop) → Env → Hp → Prop
  | [], K, T, L => K T L
  | (k, d) :: r, K, T, L => match ops.toList[k]? with
    | none => False
    | some o => match d with
      | false => o.guard = none ∧ ∃ v, VQ Γ o T [] (fun u => u = v) ∧ putVC n o.dst v T (fun T => VCpp Γ n ops PP r K T L)
      | true => o.guard = none ∧ ∃ f aq, callOf o = some (f, aq) ∧ callable Γ.P f = true ∧ PCall Γ f (aq.map (ev T)).toArray L (fun v L' => putVC n o.dst v T (fun T => VCpp Γ n ops PP r K T L')) PP
def drQ (Γ : Ctx) (ds : List Deferred) (n : Nat) (kp : List Nat) (T0 : Env) (PP : List PanicEntry → Hp → Prop) (K : Env → Hp → Prop) : Exit → Act → World → Prop
  | .normal, a, w => ∃ T L, Fits ds n T a ∧ Inv Γ L w ∧ K T L
  | .panic ch, a, w => (∃ T, Fits ds n T a ∧ ∀ i ∈ kp, T i = T0 i) ∧ ∃ L, Inv Γ L w ∧ PP ch L
  | _, _, _ => False
theorem put_getD {a : Act} {d : Option Tmp} {v : Value} {i : Nat} (h : d ≠ some i) : (a.put d v).tmps.getD i undef = a.tmps.getD i undef := by
  cases d with
  | none => rfl
  | some d =>
    simp only [Act.put, Array.getD_eq_getD_getElem?]
    rw [Array.getElem?_setIfInBounds_ne (fun e => h (by rw [e]))]
theorem Fits.unput {ds : List Deferred} {n : Nat} {T T0 : Env} {a : Act} {d : Option Tmp} {v : Value} {kp : List Nat} (hd : ∀ i ∈ kp, d ≠ some i) (h : Fits ds n T (a.put d v)) (hk : ∀ i ∈ kp, T i = T0 i) : ∃ T, Fits ds n T a ∧ ∀ i ∈ kp, T i = T0 i := by
  obtain ⟨h1, h2, h3⟩ := h
  refine ⟨fun i => a.tmps.getD i undef, ⟨?_, ?_, fun _ => rfl⟩, fun i hi => ?_⟩
  · cases d <;> simpa [Act.put] using h1
  · cases d <;> simpa [Act.put] using h2
  · rw [← hk i hi, ← h3 i, put_getD (hd i hi)]
theorem Fits.keep {ds : List Deferred} {n : Nat} {T T' : Env} {a : Act} {d : Option Tmp} {v : Value} {i : Nat} (hd : d ≠ some i) (h : Fits ds n T a) (h' : Fits ds n T' (a.put d v)) : T' i = T i := by
  rw [← h.2.2 i, ← h'.2.2 i, put_getD hd]
theorem planP_sound {ds : List Deferred} {ops : Array Oper} {kp : List Nat} {T0 : Env} {PP : List PanicEntry → Hp → Prop} {K : Env → Hp → Prop} (hs : Region.noSelect ops = true) (hkd : ∀ (k : Nat) (o : Oper), ops[k]? = some o → ∀ i ∈ kp, o.dst ≠ some i) : ∀ (pl : List (Nat × Bool)) (listed : Array Bool) (T : Env) (L : Hp) (a : Act),
    okPP ops pl listed = true → Closed ops listed → VCpp Γ n ops PP pl K T L → Fits ds n T a → (∀ i ∈ kp, T i = T0 i) → AnyL Γ ops (drQ Γ ds n kp T0 PP K) [] pl.length listed [] L a := by
  intro pl
  induction pl with
  | nil =>
    intro listed T L a hB hcl h hf hk0
    exact ⟨by simpa [okPP] using hB, fun w hi => ⟨T, L, hf, hi, h⟩⟩
  | cons p r ih =>
    intro listed T L a hB hcl h hf hk0
    obtain ⟨k, d⟩ := p
    simp only [VCpp] at h
    rw [Array.getElem?_toList] at h
    cases ho : ops[k]? with
    | none => rw [ho] at h; exact h.elim
    | some o =>
      rw [ho] at h
      cases d with
      | false =>
        simp only [okPP, Bool.and_eq_true] at hB
        obtain ⟨⟨⟨hr, hfr⟩, hnc⟩, hB⟩ := hB
        have hr' : k ∈ Region.ready .any ops listed := by simpa using hr
        have hnc' : isCallV o = false := by simpa [notCall, ho] using hnc
        obtain ⟨hg, v, hq, hk⟩ := h
        obtain ⟨u, hu, hrun | ⟨hc, _⟩⟩ := VQ_sound hq
        · rw [hu] at hrun
          obtain ⟨T', hf', hk'⟩ := putVC_sound hf hk
          have hwa : Region.wanted o (yielded ops a.tmps) = true := by unfold Region.wanted; rw [hg]
          have hy : YV Γ.P ops (Inv Γ []) o v a := .inl ⟨hwa, by rw [hf.eval]; exact hrun⟩
          exact AnyL_firstP ho (Region.noSelect_spec hs) (fun c a w h => ⟨let ⟨_, hx, hy⟩ := h.1; hx.unput (hkd k o ho) hy, h.2⟩) ops.size (fun t ht => by cases ht) r.length listed _ L a hcl (Region.free_spec ho hfr) hr' (.of_quiet ho hy) (Less.nil L)
            (ih _ T' L _ hB (hcl.set hr') hk' hf' (fun i hi => (hf.keep (hkd k o ho i hi) hf').trans (hk0 i hi)))
        · rw [hnc'] at hc; cases hc
      | true =>
        simp only [okPP, Bool.and_eq_true, decide_eq_true_eq] at hB
        obtain ⟨hr, hB⟩ := hB
        obtain ⟨hg, f, aq, hcall, hcb, hc⟩ := h
        have hr' : k ∈ Region.ready .any ops listed := by rw [hr]; simp
        obtain ⟨c, hop, hcal, has⟩ := callOf_some hcall
        refine ⟨fun h0 => (by rw [h0] at hr; cases hr), fun i hi' w hi => ?_⟩
        rw [hr] at hi'
        have hik : i = k := by simpa using hi'
        subst hik
        have hwa : Region.wanted o (yielded ops a.tmps) = true := by unfold Region.wanted; rw [hg]
        unfold wpOp
        simp only [ho, hwa, if_true]
        refine .inl ?_
        unfold Oper.wp
        rw [hf.eval, run_call hop hcal hcb]
        have hargs : c.args.map (ev T) = (aq.map (ev T)).toArray := by rw [← has]; apply Array.ext'; simp
        rw [hargs]
        refine Calls.mono (hc w hi) ?_
        rintro e w' (⟨v, L', rfl, hi2, hk⟩ | ⟨ch, L', rfl, hi2, hk⟩)
        · obtain ⟨T', hf', hk'⟩ := putVC_sound hf hk
          exact ⟨[], L', hi2, Less.nil _, fun _ => Less.refl _, ih _ T' L' _ hB (hcl.set hr') hk' hf' (fun j hj => (hf.keep (hkd i o ho j hj) hf').trans (hk0 j hj))⟩
        · exact ⟨⟨T, hf, hk0⟩, L', hi2, hk⟩
def planPB (ops : Array Oper) (kp : List Nat) (pl : List (Nat × Bool)) : Bool := Region.noSelect ops && decide (pl.length = ops.size) && okPP ops pl (Array.replicate ops.size false) && ops.toList.all (fun o => kp.all fun i => decide (o.dst ≠ some i))
theorem SX.drawn_p {id : Nat} {l : List Oper} {PP : List PanicEntry → Hp → Prop} (kp : List Nat) (pl : List (Nat × Bool)) (hm : Γ.P.follows .mixedOrders = true) (hB : planPB l.toArray kp pl = true) (hp : ∀ ch T' L', (∀ i, i ∈ kp → T' i = T i) → PP ch L' → Q (.panic ch) T' L')
    (h : VCpp Γ n l.toArray PP pl (Q .normal) T L) : SX Γ n (.region id l.toArray true) Q T L := fun ds a w hf hi => by
  simp only [planPB, Bool.and_eq_true, decide_eq_true_eq] at hB
  obtain ⟨⟨⟨hs, hlen⟩, hB⟩, hkp⟩ := hB
  have hkd : ∀ (k : Nat) (o : Oper), l.toArray[k]? = some o → ∀ i ∈ kp, o.dst ≠ some i := fun k o ho i hi => by
    have h1 := List.all_eq_true.1 hkp o (by simpa using Array.mem_of_getElem? ho)
    simpa using List.all_eq_true.1 h1 i hi
  have H := planP_sound (kp := kp) (T0 := T) hs hkd pl _ T L a hB (Closed.zero _) h hf (fun _ _ => rfl)
  have H2 := wp_region_any (id := id) hm (hlen ▸ H.any _ _ _ _ _ _ hi.drewR)
  refine Code.wp_mono (fun e a w he => ?_) H2
  cases e with
  | normal => exact he
  | panic ch => obtain ⟨⟨T', h1, hk⟩, L', h2, h3⟩ := he; exact ⟨T', L', h1, h2, hp _ _ _ hk h3⟩
  | exit => exact he.elim
  | goto => exact he.elim
  | ret => exact he.elim
  | outgrown => exact he.elim

theorem VCpp_q {ops : Array Oper} {PP : List PanicEntry → Hp → Prop} {k : Nat} {r : List (Nat × Bool)} {K : Env → Hp → Prop} {o : Oper} {v : Value} (ho : ops.toList[k]? = some o) (hg : o.guard = none) (hq : VQ Γ o T [] (fun u => u = v)) (hk : putVC n o.dst v T (fun T => VCpp Γ n ops PP r K T L)) : VCpp Γ n ops PP ((k, false) :: r) K T L := by
  simp only [VCpp, ho]
  exact ⟨hg, v, hq, hk⟩
theorem VCpp_c {ops : Array Oper} {PP : List PanicEntry → Hp → Prop} {k : Nat} {r : List (Nat × Bool)} {K : Env → Hp → Prop} {o : Oper} {f : FuncId} {aq : List Operand} {bs : Array Value} (ho : ops.toList[k]? = some o) (hg : o.guard = none) (hc : callOf o = some (f, aq)) (hcb : callable Γ.P f = true) (hb : (aq.map (ev T)).toArray = bs)
    (h : PCall Γ f bs L (fun v L' => putVC n o.dst v T (fun T => VCpp Γ n ops PP r K T L')) PP) : VCpp Γ n ops PP ((k, true) :: r) K T L := by
  simp only [VCpp, ho]
  exact ⟨hg, f, aq, hc, hcb, hb ▸ h⟩
theorem andThen_panic {K : Env → Hp → Prop} {ch : List PanicEntry} : andThen K Q (.panic ch) T L = Q (.panic ch) T L := rfl
theorem inBlk_panic {i : Nat} {ch : List PanicEntry} : inBlk i Q (.panic ch) T L = Q (.panic ch) T L := rfl
theorem noGo_panic {ch : List PanicEntry} : noGo Q (.panic ch) = Q (.panic ch) := rfl
theorem putVC_mk {d : Nat} {v : Value} {k : Env → Prop} (h : d < n) (hk : k (upd T d v)) : putVC n (some d) v T k := ⟨h, hk⟩

/-! ### a function that defers one closure -/
/-- A deferred call that returns. -/
def DCall (Γ : Ctx) (k : FuncId) (args : Array Value) (u : FrameMode) (L : Hp) (R : FrameMode → Hp → Prop) : Prop :=
  ∀ w, Inv Γ L w → CallsD Γ.P k args u w fun e u' w' => (∃ v, e = .returned v) ∧ ∃ L', Inv Γ L' w' ∧ R u' L'
theorem DCall.mono {k : FuncId} {u : FrameMode} {R R' : FrameMode → Hp → Prop} (h : DCall Γ k args u L R) (hr : ∀ u' L', R u' L' → R' u' L') : DCall Γ k args u L R' :=
  fun w hi => (h w hi).mono fun _ _ _ ⟨h1, L', h2, h3⟩ => ⟨h1, L', h2, hr _ _ h3⟩
theorem DCall.less {k : FuncId} {u : FrameMode} {R : FrameMode → Hp → Prop} {L' : Hp} (hl : Less L L') (h : DCall Γ k args u L' R) : DCall Γ k args u L R := fun w hi => h w (hl _ _ hi)
def leftR (res : Env → Hp → Value → Prop) (R : Value → Hp → Prop) (T : Env) (u' : FrameMode) (L' : Hp) : Prop := settle u' = .returning ∧ ∃ v L'', Less L' L'' ∧ res T L' v ∧ R v L''
def retD (Γ : Ctx) (res : Env → Hp → Value → Prop) (R : Value → Hp → Prop) (k : FuncId) (dargs : Array Value) : Exit → Env → Hp → Prop
  | .normal, T, L | .ret, T, L => DCall Γ k dargs .returning L (leftR res R T)
  | .panic ch, T, L => DCall Γ k dargs (.panicking ch) L (leftR res R T)
  | _, _, _ => False
theorem retD_ret {res : Env → Hp → Value → Prop} {R : Value → Hp → Prop} {k : FuncId} {dargs : Array Value} : retD Γ res R k dargs .ret T L = DCall Γ k dargs .returning L (leftR res R T) := rfl
theorem retD_panic {res : Env → Hp → Value → Prop} {R : Value → Hp → Prop} {k : FuncId} {dargs : Array Value} {ch : List PanicEntry} : retD Γ res R k dargs (.panic ch) T L = DCall Γ k dargs (.panicking ch) L (leftR res R T) := rfl
theorem run_defer {o : Oper} {c : Call} {t : Nat} {k : FuncId} {cap : Array Value} (h2 : o.op = .defer c) (hc : c.callee = .value (.tmp t)) (hca : c.args = #[]) (hT : T t = .func (.func k) #[] cap) (w : World) :
    (execOp (ev T) o).run Γ.P w = .ok (.defer { target := .fn (.func k) cap, args := #[] }) w := by
  simp [execOp, h2, resolve, hc, hca, ev, hT, Deferred.ofValue]
theorem run_invoke {k : FuncId} {cap : Array Value} (hcb : callable Γ.P k = true) (w : World) : (invoke (.fn (.func k) cap) #[]).run Γ.P w = .ok (.enter k cap) w := by
  unfold callable at hcb
  split at hcb
  · rename_i fn hfn
    simp only [Bool.and_eq_true, Bool.not_eq_true', Option.isSome_iff_exists] at hcb
    obtain ⟨⟨body, hb⟩, hn⟩ := hcb
    simp [invoke, callFunc, hfn, (by simpa using hn : ¬ fn.name = "runtime.NumGoroutine"), hb]
  · cases hcb
theorem DCall.leaves {ds : List Deferred} {fn : Func} {k : FuncId} {cap : Array Value} {u : FrameMode} {res : Env → Hp → Value → Prop} {R : Value → Hp → Prop} {a : Act} {w : World} (hu : u ≠ .run) (hcb : callable Γ.P k = true)
    (hres : ∀ T L v a w, res T L v → Fits ds n T a → Inv Γ L w → (results fn a.tmps).run Γ.P w = .ok v w) (hf : Fits ds n T a) (hi : Inv Γ L w) (h : DCall Γ k cap u L (leftR res R T)) :
    Leaves Γ.P fn a.tmps (fun e w' => ∃ v L', e = .returned v ∧ Inv Γ L' w' ∧ R v L') [{ target := .fn (.func k) cap, args := #[] }] u w := by
  refine leaves_cons hu (run_invoke hcb w) ((h w hi).mono ?_)
  rintro e u' w' ⟨⟨v, rfl⟩, L', hi', hs, v', L'', hl, hr, hR⟩
  show Leaves Γ.P fn a.tmps _ [] (settle u') w'
  rw [hs]
  exact ⟨v', hres _ _ _ _ _ hr hf hi', v', L'', rfl, hl _ _ hi', hR⟩
theorem SCall.enter_defer {fn : Func} {args : List Value} {R : Value → Hp → Prop} {c0 c1 : Code} {id : Nat} {o1 o2 : Oper} {t : Nat} {k : FuncId} {caps : Array Operand} {c : Call} (res : Env → Hp → Value → Prop)
    (hf : Γ.P.funcs[f]? = some fn) (hb : fn.body = some (.seq c0 (.seq (.region id [o1, o2].toArray false) c1))) (hn : fn.ntmps = n) (hle : args.length ≤ n)
    (hres : ∀ ds T L v a w, res T L v → Fits ds n T a → Inv Γ L w → (results fn a.tmps).run Γ.P w = .ok v w)
    (h1 : o1.op = .makeFunc (.func k) #[] caps) (h1d : o1.dst = some t) (h1g : o1.guard = none) (ht : t < n)
    (h2 : o2.op = .defer c) (hc : c.callee = .value (.tmp t)) (hca : c.args = #[]) (h2d : o2.dst = none) (h2g : o2.guard = none) (hcb : callable Γ.P k = true)
    (h0 : SX Γ n c0 (andThen (fun T L' => SX Γ n c1 (retD Γ res R k (caps.map (ev T))) (upd T t (.func (.func k) #[] (caps.map (ev T)))) L') (fun _ _ _ => False)) (env0 args) L) :
    SCall Γ f args.toArray L R := fun w hi => by
  have hfit : Fits [] n (env0 args) { tmps := args.toArray ++ Array.replicate (fn.ntmps - args.toArray.size) undef, defers := [] } := by
    refine ⟨by simp [hn]; omega, rfl, fun i => ?_⟩
    rw [env0_getD]
    simp only [Array.getD_eq_getD_getElem?, List.getD_eq_getElem?_getD]
    rw [Array.getElem?_append]
    split
    · simp
    · rename_i hge
      simp at hge
      rw [List.getElem?_eq_none hge]
      simp only [Array.getElem?_replicate]
      split <;> rfl
  refine calls_of_wp_defers hf hb (wp_seq (Code.wp_mono ?_ (h0 [] _ w hfit hi)))
  rintro e a' w' ⟨T', L', h3, h4, h5⟩
  cases e with
  | normal =>
    refine wp_seq (wp_region_lit ?_)
    have hw1 : Region.wanted o1 (yielded [o1, o2].toArray a'.tmps) = true := by unfold Region.wanted; rw [h1g]
    simp only [wpList, hw1, if_true]
    refine .inl ?_
    unfold Oper.wp
    rw [h3.eval, show (execOp (ev T') o1).run Γ.P w' = .ok (.value (.func (.func k) #[] (caps.map (ev T')))) w' by simp [execOp, h1, Instr.makeFunc]]
    have hf2 : Fits [] n (upd T' t (.func (.func k) #[] (caps.map (ev T')))) (a'.put o1.dst (.func (.func k) #[] (caps.map (ev T')))) := by rw [h1d]; exact h3.put ht _
    rw [Oper.upon_value]
    have hw2 : Region.wanted o2 (yielded [o1, o2].toArray (a'.put o1.dst (.func (.func k) #[] (caps.map (ev T')))).tmps) = true := by unfold Region.wanted; rw [h2g]
    simp only [hw2, if_true]
    refine .inl ?_
    rw [hf2.eval, run_defer h2 hc hca (upd_same ..), Oper.upon_defer, h2d]
    refine Code.wp_mono ?_ (h5 [{ target := .fn (.func k) (caps.map (ev T')), args := #[] }] _ w' ⟨hf2.1, (by rw [show (Act.put _ none undef) = _ from rfl, hf2.2.1]; rfl), hf2.2.2⟩ h4)
    rintro e a2 w2 ⟨T2, L2, k1, k2, k3⟩
    cases e with
    | normal => show Leaves _ _ _ _ _ _ _; rw [k1.2.1]; exact DCall.leaves (by simp) hcb (hres _) k1 k2 k3
    | ret => show Leaves _ _ _ _ _ _ _; rw [k1.2.1]; exact DCall.leaves (by simp) hcb (hres _) k1 k2 k3
    | panic ch => show Leaves _ _ _ _ _ _ _; rw [k1.2.1]; exact DCall.leaves (by simp) hcb (hres _) k1 k2 k3
    | exit => exact k3.elim
    | goto => exact k3.elim
    | outgrown => exact k3.elim
  | exit => exact h5.elim
  | goto => exact h5.elim
  | ret => exact h5.elim
  | panic => exact h5.elim
  | outgrown => exact h5.elim
end
end Go.SX
set_option linter.unusedVariables false
set_option linter.unusedSimpArgs false
namespace Go.Proofs.YtcenlgofldnfcaaDoor
open Go.RowKit Go.SX
open Go.SX renaming ia_someH → Φa

/-! Traces: what they are made of; the small functions. -/
theorem gB_undefH (want : Bool) (Y N F : Prop) : gBH undef want Y N F () () () = F := rfl
attribute [go_sem] gB_undefH
theorem ia_at {P : Program} {t : TypeId} {k : IntKind} {a : Int} {A : Option Addr} {a1 : Addr} {len cap : Nat} {K : Value → Prop} {D : Prop} (h : 0 < len → A = some a1) :
    indexAddrVCH P t (.slice A len cap) (.int k a) K D () () = oMH (elS P t) (fun p => (0 ≤ a ∧ a < len) ∧ K (.pointer (some (a1.add (a.toNat * p.2.1))))) D () () := by
  by_cases h0 : 0 < len
  · rw [h h0, ia_someH]
  · have e0 : ¬ (0 ≤ a ∧ a < (len : Int)) := by omega
    show indexAddrVC P t (.slice A len cap) (.int k a) K D = oM (elS P t) (fun p => (0 ≤ a ∧ a < len) ∧ K (.pointer (some (a1.add (a.toNat * p.2.1))))) D
    unfold indexAddrVC oM
    cases elS P t with
    | none => rfl
    | some p => simp only [e0, false_and]
theorem getD_get {α : Type} {l : List α} {j : Nat} {d : α} (h : j < l.length) : l[j]? = some (l.getD j d) := by
  rw [List.getD_eq_getElem?_getD, List.getElem?_eq_getElem h]; rfl
section
variable {α : Type} {sz : Nat} {R : (Addr → Value → Prop) → Addr → α → Prop} {C C' : Addr → Value → Prop} {v : Value} {xs : List α}
theorem Sl.shape (h : Sl sz R C v xs) : ∃ A c, v = .slice A xs.length c ∧ xs.length ≤ c := by
  obtain ⟨A, c, h1, h2, _⟩ := h
  exact ⟨A, c, h1, h2⟩
theorem Sl.mono (hR : ∀ a x, R C a x → R C' a x) (h : Sl sz R C v xs) : Sl sz R C' v xs := by
  obtain ⟨A, c, h1, h2, h3⟩ := h
  exact ⟨A, c, h1, h2, fun j x hj => let ⟨a, e1, e2⟩ := h3 j x hj; ⟨a, e1, hR _ _ e2⟩⟩
theorem Sl.at1 {A : Option Addr} {n c : Nat} (h : Sl sz R C (.slice A n c) xs) : ∃ a1 : Addr, (0 < n → A = some a1) ∧ n = xs.length ∧ ∀ (j : Nat) (x : α), xs[j]? = some x → R C (a1.add (j * sz)) x := by
  obtain ⟨A', c', he, hc, hA⟩ := h
  injection he with e1 e2 e3
  subst e1 e2
  by_cases h0 : 0 < xs.length
  · obtain ⟨a, e, _⟩ := hA 0 _ (List.getElem?_eq_getElem h0)
    refine ⟨a, fun _ => e, rfl, fun j x hj => ?_⟩
    obtain ⟨b, e', hb⟩ := hA j _ hj
    rw [e] at e'
    cases e'
    exact hb
  · refine ⟨⟨0, 0, none⟩, fun h => absurd h h0, rfl, fun j x hj => ?_⟩
    have := (List.getElem?_eq_some_iff.1 hj).1
    omega
end
theorem SlI.mono {k : IntKind} {C C' : Addr → Value → Prop} {v : Value} {xs : List Int} (hC : ∀ a v, C a v → C' a v) (h : SlI k C v xs) : SlI k C' v xs := Sl.mono (fun _ _ h => hC _ _ h) h
/-- A record. -/
structure Rc where
  code : Int
  ad : Int
  data : Int
  rd : Bool
  wr : Bool
  port : Int
  q : Bool
  md : Int
instance : Inhabited Rc := ⟨⟨0, 0, 0, false, false, 0, false, 0⟩⟩
def Rc.cells (x : Rc) : List Value := [.int .u8 x.code, .int .u16 x.ad, .int .u8 x.data, .bool x.rd, .bool x.wr, .int .u8 x.port, .bool x.q, .int .u8 x.md]
theorem Rc.len (x : Rc) : x.cells.length = 8 := rfl
abbrev SlC (C : Addr → Value → Prop) (v : Value) (l : List Rc) : Prop := SlS 8 Rc.cells C v l
theorem SlC.mono {C C' : Addr → Value → Prop} {v : Value} {l : List Rc} (hC : ∀ a v, C a v → C' a v) (h : SlC C v l) : SlC C' v l := Sl.mono (fun _ _ h i u hu => hC _ _ (h i u hu)) h
def mayB (x : Rc) : Bool := decide (x.code ≤ 3) && decide (x.port ≤ 7) && decide (x.md ≤ 3) && !(x.rd && x.wr)
def chkL (l : List Rc) : Int := if 4194304 < l.length then 2 else if ∀ j, j < l.length → mayB (l.getD j default) = true then 0 else 1
theorem chkL_long {l : List Rc} (h : 4194304 < l.length) : chkL l = 2 := if_pos h
theorem chkL_bad {l : List Rc} {k : Nat} (h : ¬ 4194304 < l.length) (hk : k < l.length) (hb : mayB (l.getD k default) = false) : chkL l = 1 := by
  unfold chkL
  rw [if_neg h, if_neg (fun hh => by rw [hh k hk] at hb; cases hb)]
theorem chkL_good {l : List Rc} (h : ¬ 4194304 < l.length) (hb : ∀ j, j < l.length → mayB (l.getD j default) = true) : chkL l = 0 := by
  unfold chkL
  rw [if_neg h, if_pos hb]
theorem chkL_zero {l : List Rc} (h : chkL l = 0) : l.length ≤ 4194304 ∧ ∀ j, j < l.length → mayB (l.getD j default) = true := by
  unfold chkL at h
  split at h
  · cases h
  · split at h
    · rename_i h1 h2; exact ⟨by omega, h2⟩
    · cases h
set_option maxHeartbeats 1000000 in
set_option maxRecDepth 100000 in
theorem may_spec {Γ : Ctx} (hP : Γ.P = Tryd.prog) {L : Hp} {x : Rc} :
    SCall Γ 45 #[(.agg x.cells.toArray)] L (fun v L' => v = .bool (mayB x) ∧ L' = L) := by
  refine SCall.enter (n := 25) (res1 2) (hP ▸ Tryd.func45) rfl rfl (by simp) (res1_ok rfl) ?_
  refine SX.seq_k fun K1 hK1 => ?_
  refine SX.region_d [some 1, some 2] rfl (fun ops hops => ?_)
  unfold Dsts at hops
  simp (maxSteps:=1000000)(dsimp:=false)(disch:=omega) only [go_sem, Φa, hP, hops]
  intro b0
  try with_reducible refine stI ?_
  try simp (maxSteps:=1000000)(dsimp:=false)(disch:=omega) only [go_sem, Φa, hP, hops]
  refine hK1 _ _ ?_
  try clear hK1 K1
  refine SX.seq_k fun K2 hK2 => ?_
  refine SX.region_xd [some 3, some 4, some 5, some 6, some 7, some 8, some 9, some 10, some 11, some 12, some 13, some 14, some 15, some 16, some 17, some 18, some 19, some 20, some 21, some 22, some 23, some 24, some 2] rfl (fun ops hops => ?_)
  unfold Dsts at hops
  refine RX.live [1] (fun T1 hT1 => ?_)
  simp only [forall_mem_cons', forall_mem_nil', go_sem, Φa, hP] at hT1
  have h1_1 := hT1; clear hT1
  refine RX.join 8 (fun (ss : Unit) T L' => T 10 = .bool (decide (x.code ≤ 3) && decide (x.port ≤ 7)) ∧ T 1 = T1 1 ∧ L' = some (b0, .cells x.cells.toArray 46 (0, 0)) :: L ∧ (True)) (fun K3 hK3 => ?_) ?_
  · simp only [h1_1] at hK3
    simp (maxSteps:=1000000)(dsimp:=false)(disch:=omega) only [go_sem, Φa, hP, h1_1, hops]
    repeat' (first | refine iteB (fun hg => ?_) (fun hg => ?_) | refine iteI (fun hg => ?_) (fun hg => ?_) | ((first | refine ⟨_, Cell.at 0 rfl (show (Rc.cells _)[0]? = _ from rfl), ?_⟩ | refine ⟨_, Cell.at 0 rfl (show (Rc.cells _)[5]? = _ from rfl), ?_⟩ | refine ⟨_, Cell.at 0 rfl (show (Rc.cells _)[7]? = _ from rfl), ?_⟩ | refine ⟨_, Cell.at 0 rfl (show (Rc.cells _)[3]? = _ from rfl), ?_⟩ | refine ⟨_, Cell.at 0 rfl (show (Rc.cells _)[4]? = _ from rfl), ?_⟩ | refine And.intro (by omega) ?_ | refine ⟨_, Cell.at 0 rfl rfl, ?_⟩ | fail); try (with_reducible refine stI ?_); try simp (maxSteps:=1000000)(dsimp:=false)(disch:=omega) only [go_sem, Φa, hP, h1_1, hops]) | fail)
    all_goals
      refine hK3 () _ (some (b0, .cells x.cells.toArray 46 (0, 0)) :: L) _ (by first | exact Less.refl _ | exact Less.drop _ _ | exact Less.drops (Less.drop _ _) | exact Less.drops (Less.drops (Less.drop _ _)) | exact Less.drops (Less.drops (Less.drops (Less.drop _ _))) | exact Less.drops (Less.drops (Less.drops (Less.drops (Less.drop _ _))))) ?_
      try dsimp only
      refine ⟨?_, ?_, ?_, ?_⟩
      · simp (maxSteps:=1000000)(dsimp:=false)(disch:=omega) only [go_sem, Φa, hP, h1_1]
        first | done | (refine congrArg Value.bool ?_; simp_all [mayB]; done) | (refine congrArg Value.bool ?_; simp_all [mayB]; omega)
      · simp (maxSteps:=1000000)(dsimp:=false)(disch:=omega) only [go_sem, Φa, hP, h1_1]
      · rfl
      · trivial
  · intro ss T2 L2 hI
    simp only [h1_1] at hI 
    obtain ⟨h2_10, h2_1, hL2, hinv⟩ := hI
    replace hL2 := hL2.symm
    subst hL2
    clear h1_1 T1
    refine RX.live [1, 10] (fun T3 hT3 => ?_)
    simp only [forall_mem_cons', forall_mem_nil', go_sem, Φa, hP, h2_10, h2_1] at hT3
    obtain ⟨h3_1, h3_10⟩ := hT3
    clear h2_10 h2_1 T2
    refine RX.join 5 (fun (ss : Unit) T L' => T 15 = .bool (decide (x.code ≤ 3) && decide (x.port ≤ 7) && decide (x.md ≤ 3)) ∧ T 1 = T3 1 ∧ L' = some (b0, .cells x.cells.toArray 46 (0, 0)) :: L ∧ (True)) (fun K4 hK4 => ?_) ?_
    · simp only [h3_1] at hK4
      simp (maxSteps:=1000000)(dsimp:=false)(disch:=omega) only [go_sem, Φa, hP, h3_1, h3_10, hops]
      repeat' (first | refine iteB (fun hg => ?_) (fun hg => ?_) | refine iteI (fun hg => ?_) (fun hg => ?_) | ((first | refine ⟨_, Cell.at 0 rfl (show (Rc.cells _)[0]? = _ from rfl), ?_⟩ | refine ⟨_, Cell.at 0 rfl (show (Rc.cells _)[5]? = _ from rfl), ?_⟩ | refine ⟨_, Cell.at 0 rfl (show (Rc.cells _)[7]? = _ from rfl), ?_⟩ | refine ⟨_, Cell.at 0 rfl (show (Rc.cells _)[3]? = _ from rfl), ?_⟩ | refine ⟨_, Cell.at 0 rfl (show (Rc.cells _)[4]? = _ from rfl), ?_⟩ | refine And.intro (by omega) ?_ | refine ⟨_, Cell.at 0 rfl rfl, ?_⟩ | fail); try (with_reducible refine stI ?_); try simp (maxSteps:=1000000)(dsimp:=false)(disch:=omega) only [go_sem, Φa, hP, h3_1, h3_10, hops]) | fail)
      all_goals
        refine hK4 () _ (some (b0, .cells x.cells.toArray 46 (0, 0)) :: L) _ (by first | exact Less.refl _ | exact Less.drop _ _ | exact Less.drops (Less.drop _ _) | exact Less.drops (Less.drops (Less.drop _ _)) | exact Less.drops (Less.drops (Less.drops (Less.drop _ _))) | exact Less.drops (Less.drops (Less.drops (Less.drops (Less.drop _ _))))) ?_
        try dsimp only
        refine ⟨?_, ?_, ?_, ?_⟩
        · simp (maxSteps:=1000000)(dsimp:=false)(disch:=omega) only [go_sem, Φa, hP, h3_1, h3_10]
          first | done | (refine congrArg Value.bool ?_; simp_all [mayB]; done) | (refine congrArg Value.bool ?_; simp_all [mayB]; omega)
        · simp (maxSteps:=1000000)(dsimp:=false)(disch:=omega) only [go_sem, Φa, hP, h3_1, h3_10]
        · rfl
        · trivial
    · intro ss T4 L4 hI
      simp only [h3_1] at hI 
      obtain ⟨h4_15, h4_1, hL4, hinv⟩ := hI
      replace hL4 := hL4.symm
      subst hL4
      clear h3_1 h3_10 T3
      refine RX.live [1, 15] (fun T5 hT5 => ?_)
      simp only [forall_mem_cons', forall_mem_nil', go_sem, Φa, hP, h4_15, h4_1] at hT5
      obtain ⟨h5_1, h5_15⟩ := hT5
      clear h4_15 h4_1 T4
      refine RX.join 9 (fun (ss : Unit) T L' => T 24 = .bool (mayB x) ∧ L' = some (b0, .cells x.cells.toArray 46 (0, 0)) :: L ∧ (True)) (fun K5 hK5 => ?_) ?_
      · simp (maxSteps:=1000000)(dsimp:=false)(disch:=omega) only [go_sem, Φa, hP, h5_1, h5_15, hops]
        repeat' (first | refine iteB (fun hg => ?_) (fun hg => ?_) | refine iteI (fun hg => ?_) (fun hg => ?_) | ((first | refine ⟨_, Cell.at 0 rfl (show (Rc.cells _)[0]? = _ from rfl), ?_⟩ | refine ⟨_, Cell.at 0 rfl (show (Rc.cells _)[5]? = _ from rfl), ?_⟩ | refine ⟨_, Cell.at 0 rfl (show (Rc.cells _)[7]? = _ from rfl), ?_⟩ | refine ⟨_, Cell.at 0 rfl (show (Rc.cells _)[3]? = _ from rfl), ?_⟩ | refine ⟨_, Cell.at 0 rfl (show (Rc.cells _)[4]? = _ from rfl), ?_⟩ | refine And.intro (by omega) ?_ | refine ⟨_, Cell.at 0 rfl rfl, ?_⟩ | fail); try (with_reducible refine stI ?_); try simp (maxSteps:=1000000)(dsimp:=false)(disch:=omega) only [go_sem, Φa, hP, h5_1, h5_15, hops]) | fail)
        all_goals
          refine hK5 () _ (some (b0, .cells x.cells.toArray 46 (0, 0)) :: L) _ (by first | exact Less.refl _ | exact Less.drop _ _ | exact Less.drops (Less.drop _ _) | exact Less.drops (Less.drops (Less.drop _ _)) | exact Less.drops (Less.drops (Less.drops (Less.drop _ _))) | exact Less.drops (Less.drops (Less.drops (Less.drops (Less.drop _ _))))) ?_
          try dsimp only
          refine ⟨?_, ?_, ?_⟩
          · simp (maxSteps:=1000000)(dsimp:=false)(disch:=omega) only [go_sem, Φa, hP, h5_1, h5_15]
            first | done | (refine congrArg Value.bool ?_; simp_all [mayB]; done) | (refine congrArg Value.bool ?_; simp_all [mayB]; omega)
          · rfl
          · trivial
      · intro ss T6 L6 hI
        obtain ⟨h6_24, hL6, hinv⟩ := hI
        replace hL6 := hL6.symm
        subst hL6
        clear h5_1 h5_15 T5
        refine RX.done ?_
        simp (maxSteps:=1000000)(dsimp:=false)(disch:=omega) only [go_sem, Φa, hP, h6_24, hops]
        refine hK2 _ _ ?_
        try clear hK2 K2
        refine SX.ret ?_
        simp only [andThen_normal, andThen_ret, andThen_exit, inBlk_normal, inBlk_ret, inBlk_exit, Nat.reduceEqDiff, if_true, if_false, ↓reduceIte, retQ_ret]
        try simp only [res0, res1, res2, res3, stK_e, go_sem, Φa, hP, h6_24]
        exact ⟨_, _, Less.drop _ _, rfl, rfl, rfl⟩
set_option maxHeartbeats 1000000 in
set_option maxRecDepth 100000 in
theorem refMay_spec {Γ : Ctx} (hP : Γ.P = Tryd.prog) {L : Hp} {x : Rc} :
    SCall Γ 49 #[(.agg x.cells.toArray)] L (fun v L' => v = .bool (mayB x) ∧ L' = L) := by
  refine SCall.enter (n := 25) (res1 2) (hP ▸ Tryd.func49) rfl rfl (by simp) (res1_ok rfl) ?_
  refine SX.seq_k fun K1 hK1 => ?_
  refine SX.region_d [some 1, some 2] rfl (fun ops hops => ?_)
  unfold Dsts at hops
  simp (maxSteps:=1000000)(dsimp:=false)(disch:=omega) only [go_sem, Φa, hP, hops]
  intro b0
  try with_reducible refine stI ?_
  try simp (maxSteps:=1000000)(dsimp:=false)(disch:=omega) only [go_sem, Φa, hP, hops]
  refine hK1 _ _ ?_
  try clear hK1 K1
  refine SX.seq_k fun K2 hK2 => ?_
  refine SX.region_xd [some 3, some 4, some 5, some 6, some 7, some 8, some 9, some 10, some 11, some 12, some 13, some 14, some 15, some 16, some 17, some 18, some 19, some 20, some 21, some 22, some 23, some 24, some 2] rfl (fun ops hops => ?_)
  unfold Dsts at hops
  refine RX.live [1] (fun T1 hT1 => ?_)
  simp only [forall_mem_cons', forall_mem_nil', go_sem, Φa, hP] at hT1
  have h1_1 := hT1; clear hT1
  refine RX.join 8 (fun (ss : Unit) T L' => T 10 = .bool (decide (x.code ≤ 3) && decide (x.port ≤ 7)) ∧ T 1 = T1 1 ∧ L' = some (b0, .cells x.cells.toArray 46 (0, 0)) :: L ∧ (True)) (fun K3 hK3 => ?_) ?_
  · simp only [h1_1] at hK3
    simp (maxSteps:=1000000)(dsimp:=false)(disch:=omega) only [go_sem, Φa, hP, h1_1, hops]
    repeat' (first | refine iteB (fun hg => ?_) (fun hg => ?_) | refine iteI (fun hg => ?_) (fun hg => ?_) | ((first | refine ⟨_, Cell.at 0 rfl (show (Rc.cells _)[0]? = _ from rfl), ?_⟩ | refine ⟨_, Cell.at 0 rfl (show (Rc.cells _)[5]? = _ from rfl), ?_⟩ | refine ⟨_, Cell.at 0 rfl (show (Rc.cells _)[7]? = _ from rfl), ?_⟩ | refine ⟨_, Cell.at 0 rfl (show (Rc.cells _)[3]? = _ from rfl), ?_⟩ | refine ⟨_, Cell.at 0 rfl (show (Rc.cells _)[4]? = _ from rfl), ?_⟩ | refine And.intro (by omega) ?_ | refine ⟨_, Cell.at 0 rfl rfl, ?_⟩ | fail); try (with_reducible refine stI ?_); try simp (maxSteps:=1000000)(dsimp:=false)(disch:=omega) only [go_sem, Φa, hP, h1_1, hops]) | fail)
    all_goals
      refine hK3 () _ (some (b0, .cells x.cells.toArray 46 (0, 0)) :: L) _ (by first | exact Less.refl _ | exact Less.drop _ _ | exact Less.drops (Less.drop _ _) | exact Less.drops (Less.drops (Less.drop _ _)) | exact Less.drops (Less.drops (Less.drops (Less.drop _ _))) | exact Less.drops (Less.drops (Less.drops (Less.drops (Less.drop _ _))))) ?_
      try dsimp only
      refine ⟨?_, ?_, ?_, ?_⟩
      · simp (maxSteps:=1000000)(dsimp:=false)(disch:=omega) only [go_sem, Φa, hP, h1_1]
        first | done | (refine congrArg Value.bool ?_; simp_all [mayB]; done) | (refine congrArg Value.bool ?_; simp_all [mayB]; omega)
      · simp (maxSteps:=1000000)(dsimp:=false)(disch:=omega) only [go_sem, Φa, hP, h1_1]
      · rfl
      · trivial
  · intro ss T2 L2 hI
    simp only [h1_1] at hI 
    obtain ⟨h2_10, h2_1, hL2, hinv⟩ := hI
    replace hL2 := hL2.symm
    subst hL2
    clear h1_1 T1
    refine RX.live [1, 10] (fun T3 hT3 => ?_)
    simp only [forall_mem_cons', forall_mem_nil', go_sem, Φa, hP, h2_10, h2_1] at hT3
    obtain ⟨h3_1, h3_10⟩ := hT3
    clear h2_10 h2_1 T2
    refine RX.join 5 (fun (ss : Unit) T L' => T 15 = .bool (decide (x.code ≤ 3) && decide (x.port ≤ 7) && decide (x.md ≤ 3)) ∧ T 1 = T3 1 ∧ L' = some (b0, .cells x.cells.toArray 46 (0, 0)) :: L ∧ (True)) (fun K4 hK4 => ?_) ?_
    · simp only [h3_1] at hK4
      simp (maxSteps:=1000000)(dsimp:=false)(disch:=omega) only [go_sem, Φa, hP, h3_1, h3_10, hops]
      repeat' (first | refine iteB (fun hg => ?_) (fun hg => ?_) | refine iteI (fun hg => ?_) (fun hg => ?_) | ((first | refine ⟨_, Cell.at 0 rfl (show (Rc.cells _)[0]? = _ from rfl), ?_⟩ | refine ⟨_, Cell.at 0 rfl (show (Rc.cells _)[5]? = _ from rfl), ?_⟩ | refine ⟨_, Cell.at 0 rfl (show (Rc.cells _)[7]? = _ from rfl), ?_⟩ | refine ⟨_, Cell.at 0 rfl (show (Rc.cells _)[3]? = _ from rfl), ?_⟩ | refine ⟨_, Cell.at 0 rfl (show (Rc.cells _)[4]? = _ from rfl), ?_⟩ | refine And.intro (by omega) ?_ | refine ⟨_, Cell.at 0 rfl rfl, ?_⟩ | fail); try (with_reducible refine stI ?_); try simp (maxSteps:=1000000)(dsimp:=false)(disch:=omega) only [go_sem, Φa, hP, h3_1, h3_10, hops]) | fail)
      all_goals
        refine hK4 () _ (some (b0, .cells x.cells.toArray 46 (0, 0)) :: L) _ (by first | exact Less.refl _ | exact Less.drop _ _ | exact Less.drops (Less.drop _ _) | exact Less.drops (Less.drops (Less.drop _ _)) | exact Less.drops (Less.drops (Less.drops (Less.drop _ _))) | exact Less.drops (Less.drops (Less.drops (Less.drops (Less.drop _ _))))) ?_
        try dsimp only
        refine ⟨?_, ?_, ?_, ?_⟩
        · simp (maxSteps:=1000000)(dsimp:=false)(disch:=omega) only [go_sem, Φa, hP, h3_1, h3_10]
          first | done | (refine congrArg Value.bool ?_; simp_all [mayB]; done) | (refine congrArg Value.bool ?_; simp_all [mayB]; omega)
        · simp (maxSteps:=1000000)(dsimp:=false)(disch:=omega) only [go_sem, Φa, hP, h3_1, h3_10]
        · rfl
        · trivial
    · intro ss T4 L4 hI
      simp only [h3_1] at hI 
      obtain ⟨h4_15, h4_1, hL4, hinv⟩ := hI
      replace hL4 := hL4.symm
      subst hL4
      clear h3_1 h3_10 T3
      refine RX.live [1, 15] (fun T5 hT5 => ?_)
      simp only [forall_mem_cons', forall_mem_nil', go_sem, Φa, hP, h4_15, h4_1] at hT5
      obtain ⟨h5_1, h5_15⟩ := hT5
      clear h4_15 h4_1 T4
      refine RX.join 9 (fun (ss : Unit) T L' => T 24 = .bool (mayB x) ∧ L' = some (b0, .cells x.cells.toArray 46 (0, 0)) :: L ∧ (True)) (fun K5 hK5 => ?_) ?_
      · simp (maxSteps:=1000000)(dsimp:=false)(disch:=omega) only [go_sem, Φa, hP, h5_1, h5_15, hops]
        repeat' (first | refine iteB (fun hg => ?_) (fun hg => ?_) | refine iteI (fun hg => ?_) (fun hg => ?_) | ((first | refine ⟨_, Cell.at 0 rfl (show (Rc.cells _)[0]? = _ from rfl), ?_⟩ | refine ⟨_, Cell.at 0 rfl (show (Rc.cells _)[5]? = _ from rfl), ?_⟩ | refine ⟨_, Cell.at 0 rfl (show (Rc.cells _)[7]? = _ from rfl), ?_⟩ | refine ⟨_, Cell.at 0 rfl (show (Rc.cells _)[3]? = _ from rfl), ?_⟩ | refine ⟨_, Cell.at 0 rfl (show (Rc.cells _)[4]? = _ from rfl), ?_⟩ | refine And.intro (by omega) ?_ | refine ⟨_, Cell.at 0 rfl rfl, ?_⟩ | fail); try (with_reducible refine stI ?_); try simp (maxSteps:=1000000)(dsimp:=false)(disch:=omega) only [go_sem, Φa, hP, h5_1, h5_15, hops]) | fail)
        all_goals
          refine hK5 () _ (some (b0, .cells x.cells.toArray 46 (0, 0)) :: L) _ (by first | exact Less.refl _ | exact Less.drop _ _ | exact Less.drops (Less.drop _ _) | exact Less.drops (Less.drops (Less.drop _ _)) | exact Less.drops (Less.drops (Less.drops (Less.drop _ _))) | exact Less.drops (Less.drops (Less.drops (Less.drops (Less.drop _ _))))) ?_
          try dsimp only
          refine ⟨?_, ?_, ?_⟩
          · simp (maxSteps:=1000000)(dsimp:=false)(disch:=omega) only [go_sem, Φa, hP, h5_1, h5_15]
            first | done | (refine congrArg Value.bool ?_; simp_all [mayB]; done) | (refine congrArg Value.bool ?_; simp_all [mayB]; omega)
          · rfl
          · trivial
      · intro ss T6 L6 hI
        obtain ⟨h6_24, hL6, hinv⟩ := hI
        replace hL6 := hL6.symm
        subst hL6
        clear h5_1 h5_15 T5
        refine RX.done ?_
        simp (maxSteps:=1000000)(dsimp:=false)(disch:=omega) only [go_sem, Φa, hP, h6_24, hops]
        refine hK2 _ _ ?_
        try clear hK2 K2
        refine SX.ret ?_
        simp only [andThen_normal, andThen_ret, andThen_exit, inBlk_normal, inBlk_ret, inBlk_exit, Nat.reduceEqDiff, if_true, if_false, ↓reduceIte, retQ_ret]
        try simp only [res0, res1, res2, res3, stK_e, go_sem, Φa, hP, h6_24]
        exact ⟨_, _, Less.drop _ _, rfl, rfl, rfl⟩
set_option maxHeartbeats 1000000 in
set_option maxRecDepth 100000 in
theorem check_spec {Γ : Ctx} (hP : Γ.P = Tryd.prog) {L : Hp} {v : Value} {l : List Rc} (hl : SlC (Cell Γ L) v l) :
    SCall Γ 27 #[v] L (fun v L' => v = .int .i64 (chkL l) ∧ L' = L) := by
  obtain ⟨A, c, rfl, hc⟩ := Sl.shape hl
  obtain ⟨a1, e1, _, hA⟩ := Sl.at1 hl
  refine SCall.enter (n := 18) (res1 2) (hP ▸ Tryd.func27) rfl rfl (by simp) (res1_ok rfl) ?_
  refine SX.seq_k fun K1 hK1 => ?_
  refine SX.region_d [some 2] rfl (fun ops hops => ?_)
  unfold Dsts at hops
  simp (maxSteps:=1000000)(dsimp:=false)(disch:=omega) only [go_sem, Φa, hP, hops]
  refine hK1 _ _ ?_
  try clear hK1 K1
  refine SX.seq_k fun K2 hK2 => ?_
  refine SX.seq_k fun K3 hK3 => ?_
  refine SX.region_d [some 5, some 6, some 7] rfl (fun ops hops => ?_)
  unfold Dsts at hops
  simp (maxSteps:=1000000)(dsimp:=false)(disch:=omega) only [go_sem, Φa, hP, hops]
  repeat' ((first | refine And.intro (by omega) ?_ | fail); try (with_reducible refine stI ?_); try simp (maxSteps:=1000000)(dsimp:=false)(disch:=omega) only [go_sem, Φa, hP, hops])
  refine hK3 _ _ ?_
  try clear hK3 K3
  refine SX.cond_k fun X4 Y4 hX4 hY4 => ?_
  simp (maxSteps:=1000000)(dsimp:=false)(disch:=omega) only [go_sem, Φa, hP, condVC]
  refine ⟨fun hc7 => hX4 ?_, fun hc7 => hY4 ?_⟩
  · clear hX4 hY4 X4 Y4
    refine SX.seq_k fun K5 hK5 => ?_
    refine SX.region_d [some 2] rfl (fun ops hops => ?_)
    unfold Dsts at hops
    simp (maxSteps:=1000000)(dsimp:=false)(disch:=omega) only [go_sem, Φa, hP, hops]
    refine hK5 _ _ ?_
    try clear hK5 K5
    refine SX.ret ?_
    simp only [andThen_normal, andThen_ret, andThen_exit, inBlk_normal, inBlk_ret, inBlk_exit, Nat.reduceEqDiff, if_true, if_false, ↓reduceIte, retQ_ret]
    try simp only [res0, res1, res2, res3, stK_e, go_sem, Φa, hP]
    refine ⟨_, L, Less.refl _, rfl, ?_, rfl⟩
    rw [chkL_long (by omega)]
  · clear hX4 hY4 X4 Y4
    refine SX.skip ?_
    try simp only [andThen_normal, andThen_ret, andThen_exit, inBlk_normal, inBlk_ret, inBlk_exit, Nat.reduceEqDiff, if_true, if_false, ↓reduceIte]
    refine hK2 _ _ ?_
    try clear hK2 K2
    refine SX.seq_k fun K6 hK6 => ?_
    refine SX.seq_k fun K7 hK7 => ?_
    refine SX.region_d [some 8, some 9, some 10] rfl (fun ops hops => ?_)
    unfold Dsts at hops
    simp (maxSteps:=1000000)(dsimp:=false)(disch:=omega) only [go_sem, Φa, hP, hops]
    repeat' ((first | refine And.intro (by omega) ?_ | fail); try (with_reducible refine stI ?_); try simp (maxSteps:=1000000)(dsimp:=false)(disch:=omega) only [go_sem, Φa, hP, hops])
    refine hK7 _ _ ?_
    try clear hK7 K7
    refine SX.block ?_
    refine SX.live [8, 9, 10] (fun T1 hT1 => ?_)
    simp only [forall_mem_cons', forall_mem_nil', go_sem, Φa, hP] at hT1
    obtain ⟨h1_8, h1_9, h1_10⟩ := hT1
    refine SX.loop_k (fun (ss : (Nat)) T L' => (fun (k : Nat) => T 10 = .int .i64 (k : Int) ∧ T 8 = T1 8 ∧ T 9 = T1 9 ∧ L' = L ∧ (k ≤ l.length ∧ ∀ j, j < k → mayB (l.getD j default) = true)) (ss)) (fun (ss : (Nat)) => (fun (k : Nat) => l.length - k) (ss)) 0 ?_ ?_
    · try dsimp only
      refine ⟨?_, ?_, ?_, ?_, ?_⟩
      · first | exact h1_10 | (rw [h1_10]; rfl) | (rw [h1_10]; simp; done)
      · rfl
      · rfl
      · rfl
      · exact ⟨Nat.zero_le _, fun j hj => absurd hj (Nat.not_lt_zero _)⟩
    · intro k T2 L2 hI K8 hK8
      try dsimp only at hI hK8
      simp only [h1_8, h1_9] at hI hK8
      obtain ⟨h2_10, h2_8, h2_9, hL2, ⟨hk, hin⟩⟩ := hI
      replace hL2 := hL2.symm
      subst hL2
      clear h1_8 h1_9 h1_10 T1
      refine SX.seq_k fun K9 hK9 => ?_
      refine SX.region_d [some 11] rfl (fun ops hops => ?_)
      unfold Dsts at hops
      simp (maxSteps:=1000000)(dsimp:=false)(disch:=omega) only [go_sem, Φa, hP, h2_10, h2_8, h2_9, hops]
      repeat' ((first | refine And.intro (by omega) ?_ | fail); try (with_reducible refine stI ?_); try simp (maxSteps:=1000000)(dsimp:=false)(disch:=omega) only [go_sem, Φa, hP, h2_10, h2_8, h2_9, hops])
      refine hK9 _ _ ?_
      try clear hK9 K9
      refine SX.seq_k fun K10 hK10 => ?_
      refine SX.cond_k fun X11 Y11 hX11 hY11 => ?_
      simp (maxSteps:=1000000)(dsimp:=false)(disch:=omega) only [go_sem, Φa, hP, h2_10, h2_8, h2_9, condVC]
      refine ⟨fun hc11 => hX11 ?_, fun hc11 => hY11 ?_⟩
      · clear hX11 hY11 X11 Y11
        refine SX.skip ?_
        try simp only [andThen_normal, andThen_ret, andThen_exit, inBlk_normal, inBlk_ret, inBlk_exit, Nat.reduceEqDiff, if_true, if_false, ↓reduceIte]
        refine hK10 _ _ ?_
        try clear hK10 K10
        refine SX.seq_k fun K12 hK12 => ?_
        refine SX.block ?_
        refine SX.seq_k fun K13 hK13 => ?_
        have hkl : k < l.length := by omega
        have hck := hA k _ (getD_get (d := default) hkl)
        refine SX.region_d [some 12, some 13, some 4, none] rfl (fun ops hops => ?_)
        unfold Dsts at hops
        simp (maxSteps:=1000000)(dsimp:=false)(disch:=omega) only [go_sem, Φa, hP, h2_10, h2_8, h2_9, hops, ia_at e1]
        refine ⟨_, hck 0 _ rfl, _, hck 1 _ rfl, _, hck 2 _ rfl, _, hck 3 _ rfl, _, hck 4 _ rfl, _, hck 5 _ rfl, _, hck 6 _ rfl, _, hck 7 _ rfl, ?_⟩
        try with_reducible refine stI ?_
        try simp (maxSteps:=1000000)(dsimp:=false)(disch:=omega) only [go_sem, Φa, hP, h2_10, h2_8, h2_9, hops, ia_at e1]
        intro b4
        try with_reducible refine stI ?_
        try simp (maxSteps:=1000000)(dsimp:=false)(disch:=omega) only [go_sem, Φa, hP, h2_10, h2_8, h2_9, hops, ia_at e1]
        refine ⟨0, _, _, _, rfl, (by decide), .inr (by decide), ?_⟩
        try with_reducible refine stI ?_
        try simp (maxSteps:=1000000)(dsimp:=false)(disch:=omega) only [go_sem, Φa, hP, h2_10, h2_8, h2_9, hops, ia_at e1]
        refine hK13 _ _ ?_
        try clear hK13 K13
        refine SX.seq_k fun K14 hK14 => ?_
        refine SX.region_d [some 14, some 15, some 16] rfl (fun ops hops => ?_)
        unfold Dsts at hops
        simp (maxSteps:=1000000)(dsimp:=false)(disch:=omega) only [go_sem, Φa, hP, h2_10, h2_8, h2_9, hops]
        rw [show (#[Value.int .u8 (l.getD k default).code, .int .u16 (l.getD k default).ad, .int .u8 (l.getD k default).data, .bool (l.getD k default).rd, .bool (l.getD k default).wr, .int .u8 (l.getD k default).port, .bool (l.getD k default).q, .int .u8 (l.getD k default).md] : Array Value) = (l.getD k default).cells.toArray from rfl]
        refine ⟨_, Cell.at 0 rfl (show (Rc.cells _)[0]? = _ from rfl), _, Cell.at 0 rfl (show (Rc.cells _)[1]? = _ from rfl), _, Cell.at 0 rfl (show (Rc.cells _)[2]? = _ from rfl), _, Cell.at 0 rfl (show (Rc.cells _)[3]? = _ from rfl), _, Cell.at 0 rfl (show (Rc.cells _)[4]? = _ from rfl), _, Cell.at 0 rfl (show (Rc.cells _)[5]? = _ from rfl), _, Cell.at 0 rfl (show (Rc.cells _)[6]? = _ from rfl), _, Cell.at 0 rfl (show (Rc.cells _)[7]? = _ from rfl), ?_⟩
        try with_reducible refine stI ?_
        try simp (maxSteps:=1000000)(dsimp:=false)(disch:=omega) only [go_sem, Φa, hP, h2_10, h2_8, h2_9, hops]
        refine SCall.mono (may_spec hP (x := l.getD k default)) ?_
        rintro v_ L_ ⟨hv_, hL_⟩
        rw [hv_, hL_]
        clear hv_ hL_ v_ L_
        try with_reducible refine stI ?_
        try simp (maxSteps:=1000000)(dsimp:=false)(disch:=omega) only [go_sem, Φa, hP, h2_10, h2_8, h2_9, hops]
        refine hK14 _ _ ?_
        try clear hK14 K14
        refine SX.cond_k fun X15 Y15 hX15 hY15 => ?_
        simp (maxSteps:=1000000)(dsimp:=false)(disch:=omega) only [go_sem, Φa, hP, h2_10, h2_8, h2_9, condVC]
        refine ⟨fun hc16 => hX15 ?_, fun hc16 => hY15 ?_⟩
        · clear hX15 hY15 X15 Y15
          refine SX.seq_k fun K16 hK16 => ?_
          refine SX.region_d [some 2] rfl (fun ops hops => ?_)
          unfold Dsts at hops
          simp (maxSteps:=1000000)(dsimp:=false)(disch:=omega) only [go_sem, Φa, hP, h2_10, h2_8, h2_9, hops]
          refine hK16 _ _ ?_
          try clear hK16 K16
          refine SX.ret ?_
          simp only [andThen_normal, andThen_ret, andThen_exit, inBlk_normal, inBlk_ret, inBlk_exit, Nat.reduceEqDiff, if_true, if_false, ↓reduceIte, retQ_ret]
          try simp only [res0, res1, res2, res3, stK_e, go_sem, Φa, hP, h2_10, h2_8, h2_9]
          refine ⟨_, _, Less.drop _ _, rfl, ?_, rfl⟩
          rw [chkL_bad (by omega) hkl (by simpa using hc16)]
        · clear hX15 hY15 X15 Y15
          refine SX.skip ?_
          try simp only [andThen_normal, andThen_ret, andThen_exit, inBlk_normal, inBlk_ret, inBlk_exit, Nat.reduceEqDiff, if_true, if_false, ↓reduceIte]
          refine hK12 _ _ ?_
          try clear hK12 K12
          refine SX.region_d [some 17, some 10] rfl (fun ops hops => ?_)
          unfold Dsts at hops
          simp (maxSteps:=1000000)(dsimp:=false)(disch:=omega) only [go_sem, Φa, hP, h2_10, h2_8, h2_9, hops]
          repeat' ((first | refine And.intro (by omega) ?_ | fail); try (with_reducible refine stI ?_); try simp (maxSteps:=1000000)(dsimp:=false)(disch:=omega) only [go_sem, Φa, hP, h2_10, h2_8, h2_9, hops])
          refine hK8 (k + 1) _ (L) _ (by exact Less.drop _ _) ?_ ?_
          · try dsimp only
            refine ⟨?_, ?_, ?_, ?_, ?_⟩
            · simp (maxSteps:=1000000)(dsimp:=false)(disch:=omega) only [go_sem, Φa, hP, h2_10, h2_8, h2_9]
              first | done | rfl | skip
            · simp (maxSteps:=1000000)(dsimp:=false)(disch:=omega) only [go_sem, Φa, hP, h2_10, h2_8, h2_9]
            · simp (maxSteps:=1000000)(dsimp:=false)(disch:=omega) only [go_sem, Φa, hP, h2_10, h2_8, h2_9]
            · rfl
            · refine ⟨by omega, fun j hj => ?_⟩
              rcases Nat.lt_succ_iff_lt_or_eq.1 hj with h | rfl
              · exact hin j h
              · simpa using hc16
          · (try dsimp only); omega
      · clear hX11 hY11 X11 Y11
        refine SX.exit ?_
        try simp only [andThen_normal, andThen_ret, andThen_exit, inBlk_normal, inBlk_ret, inBlk_exit, Nat.reduceEqDiff, if_true, if_false, ↓reduceIte]
        refine hK6 _ _ ?_
        try clear hK6 K6
        refine SX.seq_k fun K17 hK17 => ?_
        refine SX.region_d [some 2] rfl (fun ops hops => ?_)
        unfold Dsts at hops
        simp (maxSteps:=1000000)(dsimp:=false)(disch:=omega) only [go_sem, Φa, hP, h2_10, h2_8, h2_9, hops]
        refine hK17 _ _ ?_
        try clear hK17 K17
        refine SX.ret ?_
        simp only [andThen_normal, andThen_ret, andThen_exit, inBlk_normal, inBlk_ret, inBlk_exit, Nat.reduceEqDiff, if_true, if_false, ↓reduceIte, retQ_ret]
        try simp only [res0, res1, res2, res3, stK_e, go_sem, Φa, hP, h2_10, h2_8, h2_9]
        refine ⟨_, L, Less.refl _, rfl, ?_, rfl⟩
        rw [chkL_good (by omega) (fun j hj => hin j (by omega))]
set_option maxHeartbeats 1000000 in
set_option maxRecDepth 100000 in
theorem after_spec {Γ : Ctx} (hP : Γ.P = Tryd.prog) {L : Hp} {a : Int} :
    SCall Γ 35 #[(.int .u16 a)] L (fun v L' => v = .int .u16 (IntKind.u16.wrap (a + 1)) ∧ L' = L) := by
  refine SCall.enter (n := 5) (res1 2) (hP ▸ Tryd.func35) rfl rfl (by simp) (res1_ok rfl) ?_
  refine SX.seq_k fun K1 hK1 => ?_
  refine SX.region_d [some 2] rfl (fun ops hops => ?_)
  unfold Dsts at hops
  simp (maxSteps:=1000000)(dsimp:=false)(disch:=omega) only [go_sem, Φa, hP, hops]
  refine hK1 _ _ ?_
  try clear hK1 K1
  refine SX.seq_k fun K2 hK2 => ?_
  refine SX.region_d [some 3, some 4, some 2] rfl (fun ops hops => ?_)
  unfold Dsts at hops
  simp (maxSteps:=1000000)(dsimp:=false)(disch:=omega) only [go_sem, Φa, hP, hops]
  repeat' ((first | refine And.intro (by omega) ?_ | fail); try (with_reducible refine stI ?_); try simp (maxSteps:=1000000)(dsimp:=false)(disch:=omega) only [go_sem, Φa, hP, hops])
  refine hK2 _ _ ?_
  try clear hK2 K2
  refine SX.ret ?_
  simp only [andThen_normal, andThen_ret, andThen_exit, inBlk_normal, inBlk_ret, inBlk_exit, Nat.reduceEqDiff, if_true, if_false, ↓reduceIte, retQ_ret]
  try simp only [res0, res1, res2, res3, stK_e, go_sem, Φa, hP]
  exact ⟨_, _, Less.refl _, rfl, rfl, rfl⟩

end Go.Proofs.YtcenlgofldnfcaaDoor
set_option linter.unusedVariables false
set_option linter.unusedSimpArgs false
namespace Go.Proofs.YtcenlgofldnfcaaDoor
open Go.RowKit Go.SX

/-! The reader: bytes, records; they panic. -/
def rdS (rb : Nat) (bv : Value) (at_ fr : Int) : Slot := some (rb, .cells [bv, .int .i64 at_, .int .i64 fr].toArray 66 (0, 0))
def brk (p : Int) : List PanicEntry := [{ v := .iface 62 (.int .i64 p), recovered := false }]
theorem get_set {α : Type} {L : List α} {i : Nat} {s t : α} (h : L[i]? = some s) : (L.set i t)[i]? = some t := by
  rw [List.getElem?_set_self (List.getElem?_eq_some_iff.1 h).1]
theorem SlI.hole {Γ : Ctx} {L : Hp} {i : Nat} {s : Slot} {k : IntKind} {v : Value} {xs : List Int} (h : SlI k (Cell Γ (L.set i none)) v xs) : SlI k (Cell Γ (L.set i s)) v xs := SlI.mono (fun _ _ h => Cell.hole h) h
theorem SlI.fill {Γ : Ctx} {L : Hp} {i : Nat} {s : Slot} {k : IntKind} {v : Value} {xs : List Int} (hi : L[i]? = some s) (h : SlI k (Cell Γ (L.set i none)) v xs) : SlI k (Cell Γ L) v xs := by
  have := SlI.hole (s := s) h
  rwa [show L.set i s = L by
    apply List.ext_getElem?
    intro j
    rw [List.getElem?_set]
    split
    · rename_i e; subst e
      have hl := (List.getElem?_eq_some_iff.1 hi).1
      rw [if_pos hl, hi]
    · rfl] at this
set_option maxHeartbeats 1000000 in
set_option maxRecDepth 100000 in
theorem byte_spec {Γ : Ctx} (hP : Γ.P = Tryd.prog) {L : Hp} {i rb : Nat} {bv : Value} {xs : List Int} {at_ : Nat} {fr : Int} (hi : L[i]? = some (rdS rb bv at_ fr)) (hb : SlI .u8 (Cell Γ (L.set i none)) bv xs) (hat : at_ ≤ xs.length) (hxl : xs.length ≤ 9000000000000000000) :
    PCall Γ 38 #[(.pointer (some ⟨rb, 0, none⟩))] L (fun v L' => at_ < xs.length ∧ v = .int .u8 (xs.getD at_ 0) ∧ L' = L.set i (rdS rb bv ((at_ + 1 : Nat) : Int) fr)) (fun ch L' => at_ = xs.length ∧ ch = brk fr ∧ L' = L) := by
  obtain ⟨A, c, rfl, hc⟩ := Sl.shape hb
  obtain ⟨a1, e1, _, hA0⟩ := Sl.at1 hb
  have hA : ∀ (j : Nat) (x : Int), xs[j]? = some x → Cell Γ (L.set i none) (a1.add (j * 1)) (.int .u8 x) := fun j x h => hA0 j x h
  unfold rdS at hi ⊢
  refine PCall.enter (n := 36) (res1 2) (hP ▸ Tryd.func38) rfl rfl (by simp) (res1_ok rfl) ?_
  refine SX.seq_k fun K1 hK1 => ?_
  refine SX.region_d [some 2] rfl (fun ops hops => ?_)
  unfold Dsts at hops
  simp (maxSteps := 1000000) (dsimp := false) (disch := omega) only [go_sem, ia_someH, hP, hops]
  refine hK1 _ _ ?_
  try clear hK1 K1
  refine SX.seq_k fun K2 hK2 => ?_
  refine SX.seq_k fun K3 hK3 => ?_
  refine SX.quiet_d (hP ▸ T.mixed) (by kernel_rfl) [some 3, some 4, some 5, some 6, some 7, some 8, some 9, some 10, some 11, some 12] rfl (fun ops hops => ?_)
  unfold Dsts at hops
  simp (maxSteps := 1000000) (dsimp := false) (disch := omega) only [go_sem, ia_someH, hP, hops]
  refine ⟨_, Cell.at i hi rfl, ?_⟩
  try with_reducible refine stI ?_
  try simp (maxSteps := 1000000) (dsimp := false) (disch := omega) only [go_sem, ia_someH, hP, hops]
  refine ⟨_, Cell.at i hi rfl, ?_⟩
  try with_reducible refine stI ?_
  try simp (maxSteps := 1000000) (dsimp := false) (disch := omega) only [go_sem, ia_someH, hP, hops]
  refine hK3 _ _ ?_
  try clear hK3 K3
  refine SX.live [0, 12] (fun T1 hT1 => ?_)
  simp only [forall_mem_cons', forall_mem_nil', go_sem, ia_someH, hP] at hT1
  obtain ⟨h1_0, h1_12⟩ := hT1
  refine SX.cond_k fun X4 Y4 hX4 hY4 => ?_
  simp (maxSteps := 1000000) (dsimp := false) (disch := omega) only [go_sem, ia_someH, hP, h1_0, h1_12, condVC]
  refine ⟨fun hc12 => hX4 ?_, fun hc12 => hY4 ?_⟩
  · clear hX4 hY4 X4 Y4
    refine SX.region_xd [some 13, some 14, some 15, some 16, some 17, none] rfl (fun ops hops => ?_)
    unfold Dsts at hops
    refine RX.cut_k 4 fun K5 hK5 => ?_
    simp (maxSteps := 1000000) (dsimp := false) (disch := omega) only [go_sem, ia_someH, hP, h1_0, h1_12, hops]
    refine ⟨_, Cell.at i hi rfl, ?_⟩
    try with_reducible refine stI ?_
    try simp (maxSteps := 1000000) (dsimp := false) (disch := omega) only [go_sem, ia_someH, hP, h1_0, h1_12, hops]
    refine hK5 _ _ ?_
    try clear hK5 K5
    refine RX.raise rfl rfl rfl rfl rfl (by rw [hP]; kernel_rfl) (by decide) ?_
    try simp (maxSteps := 1000000) (dsimp := false) (disch := omega) only [go_sem, ia_someH, hP, h1_0, h1_12, andThen_normal, andThen_ret, andThen_exit, inBlk_normal, inBlk_ret, inBlk_exit, Nat.reduceEqDiff, if_true, if_false, ↓reduceIte, andThen_panic, inBlk_panic, noGo_panic, retP_panic, retD_panic]
    try simp only [andThen_normal, andThen_ret, andThen_exit, inBlk_normal, inBlk_ret, inBlk_exit, Nat.reduceEqDiff, if_true, if_false, ↓reduceIte, andThen_panic, inBlk_panic, noGo_panic, retP_panic, retD_panic]
    exact ⟨_, Less.refl _, by omega, rfl, rfl⟩
  · clear hX4 hY4 X4 Y4
    refine SX.skip ?_
    try simp only [andThen_normal, andThen_ret, andThen_exit, inBlk_normal, inBlk_ret, inBlk_exit, Nat.reduceEqDiff, if_true, if_false, ↓reduceIte]
    refine hK2 _ _ ?_
    try clear hK2 K2
    refine SX.seq_k fun K6 hK6 => ?_
    refine SX.region_d [some 18, some 19, some 20, some 21, some 22, some 23, some 24, none] rfl (fun ops hops => ?_)
    unfold Dsts at hops
    simp (maxSteps := 1000000) (dsimp := false) (disch := omega) only [go_sem, ia_someH, hP, h1_0, h1_12, hops]
    refine ⟨_, Cell.at i hi rfl, ?_⟩
    try with_reducible refine stI ?_
    try simp (maxSteps := 1000000) (dsimp := false) (disch := omega) only [go_sem, ia_someH, hP, h1_0, h1_12, hops]
    refine ⟨i, _, _, _, hi, (by show 2 ≤ 3; decide), .inr (by decide), ?_⟩
    try with_reducible refine stI ?_
    try simp (maxSteps := 1000000) (dsimp := false) (disch := omega) only [go_sem, ia_someH, hP, h1_0, h1_12, hops]
    refine hK6 _ _ ?_
    try clear hK6 K6
    refine SX.seq_k fun K7 hK7 => ?_
    have hlt : at_ < xs.length := by omega
    have hx := hA _ _ (getD_get (d := (0 : Int)) hlt)
    rw [Nat.mul_one] at hx
    have ht : ((at_ : Int) + 1 - 1).toNat = at_ := by omega
    refine SX.quiet_d (hP ▸ T.mixed) (by kernel_rfl) [some 25, some 26, some 27, some 28, some 29, some 30, some 31, some 32, some 33, some 34, some 35, some 2] rfl (fun ops hops => ?_)
    unfold Dsts at hops
    simp (maxSteps := 1000000) (dsimp := false) (disch := omega) only [go_sem, ia_someH, hP, h1_0, h1_12, hops, ia_at e1, ht]
    refine ⟨_, Cell.at i (get_set hi) rfl, ?_⟩
    try with_reducible refine stI ?_
    try simp (maxSteps := 1000000) (dsimp := false) (disch := omega) only [go_sem, ia_someH, hP, h1_0, h1_12, hops, ia_at e1, ht]
    refine ⟨_, Cell.at i (get_set hi) rfl, ?_⟩
    try with_reducible refine stI ?_
    try simp (maxSteps := 1000000) (dsimp := false) (disch := omega) only [go_sem, ia_someH, hP, h1_0, h1_12, hops, ia_at e1, ht]
    refine ⟨_, Cell.hole hx, ?_⟩
    try with_reducible refine stI ?_
    try simp (maxSteps := 1000000) (dsimp := false) (disch := omega) only [go_sem, ia_someH, hP, h1_0, h1_12, hops, ia_at e1, ht]
    refine hK7 _ _ ?_
    try clear hK7 K7
    refine SX.ret ?_
    simp only [andThen_normal, andThen_ret, andThen_exit, inBlk_normal, inBlk_ret, inBlk_exit, Nat.reduceEqDiff, if_true, if_false, ↓reduceIte, retP_ret]
    try simp only [res0, res1, res2, res3, stK_e, go_sem, ia_someH, hP, h1_0, h1_12]
    exact ⟨_, _, Less.refl _, rfl, hlt, rfl, rfl⟩

end Go.Proofs.YtcenlgofldnfcaaDoor
set_option linter.unusedVariables false
set_option linter.unusedSimpArgs false
namespace Go.Proofs.YtcenlgofldnfcaaDoor
open Go.RowKit Go.SX
open Go.SX renaming ia_someH → Φa

def cdB (h : Int) : Int := bits .and .u8 h 3
def rdB (h : Int) : Bool := !decide (bits .and .u8 h 4 = 0)
def wrB (h : Int) : Bool := !decide (bits .and .u8 h 8 = 0)
def qB (h : Int) : Bool := !decide (bits .and .u8 h 16 = 0)
def mdB (h : Int) : Int := bits .and .u8 (Int.fdiv h (2 ^ min 5 8)) 3
def moreB (h : Int) : Bool := !decide (bits .and .u8 h 128 = 0)
def adB (lo hi : Int) : Int := bits .or .u16 (IntKind.u16.wrap lo) (IntKind.u16.wrap (IntKind.u16.wrap hi * 2 ^ min 8 16))
def mk1 (h next : Int) : Rc := ⟨cdB h, next, 0, rdB h, wrB h, 0, qB h, mdB h⟩
def hdX (xs : List Int) (at_ : Nat) (next : Int) : Rc × Nat :=
  if moreB (xs.getD at_ 0) = true then ({ mk1 (xs.getD at_ 0) next with port := xs.getD (at_ + 1) 0, ad := adB (xs.getD (at_ + 2) 0) (xs.getD (at_ + 3) 0) }, 4) else (mk1 (xs.getD at_ 0) next, 1)
def goodX (h next : Int) (x : Rc) : Bool := mayB x && !(moreB h && decide (x.ad = next) && decide (x.port = 0))
def recP (xs : List Int) (at_ : Nat) (next : Int) : Option (Rc × Nat) :=
  if xs.length ≤ at_ then none else
  if xs.length ≤ at_ + (hdX xs at_ next).2 then none else
  if goodX (xs.getD at_ 0) next { (hdX xs at_ next).1 with data := xs.getD (at_ + (hdX xs at_ next).2) 0 } = true then some ({ (hdX xs at_ next).1 with data := xs.getD (at_ + (hdX xs at_ next).2) 0 }, (hdX xs at_ next).2 + 1) else none
theorem hdX_more {xs : List Int} {at_ : Nat} {next : Int} (h : moreB (xs.getD at_ 0) = true) : hdX xs at_ next = ({ mk1 (xs.getD at_ 0) next with port := xs.getD (at_ + 1) 0, ad := adB (xs.getD (at_ + 2) 0) (xs.getD (at_ + 3) 0) }, 4) := if_pos h
theorem hdX_one {xs : List Int} {at_ : Nat} {next : Int} (h : moreB (xs.getD at_ 0) = false) : hdX xs at_ next = (mk1 (xs.getD at_ 0) next, 1) := if_neg (by rw [h]; simp)
theorem recP_end {xs : List Int} {at_ : Nat} {next : Int} (h : at_ = xs.length) : recP xs at_ next = none := if_pos (by omega)
theorem recP_short {xs : List Int} {at_ : Nat} {next : Int} (h : xs.length ≤ at_ + (hdX xs at_ next).2) : recP xs at_ next = none := by
  unfold recP
  rw [if_pos h]
  split <;> rfl
theorem recP_short4 {xs : List Int} {at_ : Nat} {next : Int} (hm : moreB (xs.getD at_ 0) = true) (h : xs.length ≤ at_ + 4) : recP xs at_ next = none := recP_short (by rw [hdX_more hm]; exact h)
theorem recP_bad {xs : List Int} {at_ k : Nat} {next : Int} {x : Rc} (hx : hdX xs at_ next = (x, k)) (h : goodX (xs.getD at_ 0) next { x with data := xs.getD (at_ + k) 0 } = false) : recP xs at_ next = none := by
  unfold recP
  rw [hx]
  split
  · rfl
  · split
    · rfl
    · rw [h]; rfl
theorem recP_good {xs : List Int} {at_ k : Nat} {next : Int} {x : Rc} (hx : hdX xs at_ next = (x, k)) (h1 : at_ < xs.length) (h2 : at_ + k < xs.length) (h : goodX (xs.getD at_ 0) next { x with data := xs.getD (at_ + k) 0 } = true) : recP xs at_ next = some ({ x with data := xs.getD (at_ + k) 0 }, k + 1) := by
  unfold recP
  rw [hx, if_neg (by omega), if_neg (by show ¬ xs.length ≤ at_ + k; omega), if_pos h]
theorem byte_D {xs : List Int} (hb : Byte xs) (j : Nat) : 0 ≤ xs.getD j 0 ∧ xs.getD j 0 ≤ 255 := by
  rw [List.getD_eq_getElem?_getD]
  cases h : xs[j]? with
  | none => exact ⟨Int.le_refl _, by decide⟩
  | some x => exact hb x (List.mem_of_getElem? h)
theorem get_set1 {α : Type} {L : List α} {i : Nat} {r s t : α} (h : L[i]? = some s) : (r :: L.set i t)[i + 1]? = some t := get_set h
theorem get_set2 {α : Type} {L : List α} {i : Nat} {q r s t : α} (h : L[i]? = some s) : (q :: r :: L.set i t)[i + 2]? = some t := get_set h
theorem rd_cell {Γ : Ctx} {L : Hp} {i : Nat} {q r s : Slot} {rb : Nat} {bv : Value} {a f : Int} (h : L[i]? = some s) : Cell Γ (q :: r :: L.set i (rdS rb bv a f)) ⟨rb, 2, none⟩ (.int .i64 f) := Cell.cons _ (Cell.cons _ (Cell.at i (xs := [bv, .int .i64 a, .int .i64 f]) (get_set h) rfl))
theorem SlI.up1 {Γ : Ctx} {L : Hp} {i : Nat} {r X : Slot} {k : IntKind} {v : Value} {xs : List Int} (h : SlI k (Cell Γ (L.set i none)) v xs) : SlI k (Cell Γ ((r :: L.set i X).set (i + 1) none)) v xs := SlI.mono (fun a v h => by
  rw [List.set_cons_succ, List.set_set]; exact Cell.cons _ h) h
theorem SlI.up2 {Γ : Ctx} {L : Hp} {i : Nat} {r q X : Slot} {k : IntKind} {v : Value} {xs : List Int} (h : SlI k (Cell Γ (L.set i none)) v xs) : SlI k (Cell Γ ((q :: r :: L.set i X).set (i + 2) none)) v xs := SlI.mono (fun a v h => by
  rw [List.set_cons_succ, List.set_cons_succ, List.set_set]; exact Cell.cons _ (Cell.cons _ h)) h
set_option maxHeartbeats 1000000 in
set_option maxRecDepth 100000 in
theorem record_spec {Γ : Ctx} (hP : Γ.P = Tryd.prog) {L : Hp} {i rb : Nat} {bv : Value} {xs : List Int} {at_ : Nat} {fr next : Int} (hi : L[i]? = some (rdS rb bv at_ fr)) (hb : SlI .u8 (Cell Γ (L.set i none)) bv xs) (hat : at_ ≤ xs.length) (hxl : xs.length ≤ 9000000000000000000) (hby : Byte xs) :
    PCall Γ 39 #[(.pointer (some ⟨rb, 0, none⟩)), (.int .u16 next)] L (fun v L' => ∃ x k, recP xs at_ next = some (x, k) ∧ v = .agg x.cells.toArray ∧ L' = L.set i (rdS rb bv ((at_ + k : Nat) : Int) at_)) (fun ch L' => recP xs at_ next = none ∧ ch = brk at_ ∧ ∃ a f, L' = L.set i (rdS rb bv a f)) := by
  refine PCall.enter (n := 77) (resX Γ [.cell 4 46]) (hP ▸ Tryd.func39) rfl rfl (by simp) (resX_ok rfl) ?_
  refine SX.seq_k fun K1 hK1 => ?_
  refine SX.region_d [some 4] rfl (fun ops hops => ?_)
  unfold Dsts at hops
  simp (maxSteps:=1000000)(dsimp:=false)(disch:=omega) only [go_sem, Φa, hP, hops]
  intro g4
  try with_reducible refine stI ?_
  try simp (maxSteps:=1000000)(dsimp:=false)(disch:=omega) only [go_sem, Φa, hP, hops]
  refine hK1 _ _ ?_
  try clear hK1 K1
  refine SX.seq_k fun K2 hK2 => ?_
  unfold rdS at hi
  refine SX.region_d [some 8, some 9, some 10, some 11, some 12, some 13, some 14, none] rfl (fun ops hops => ?_)
  unfold Dsts at hops
  simp (maxSteps:=1000000)(dsimp:=false)(disch:=omega) only [go_sem, Φa, hP, hops]
  refine ⟨_, Cell.cons _ (Cell.at i hi rfl), ?_⟩
  try with_reducible refine stI ?_
  try simp (maxSteps:=1000000)(dsimp:=false)(disch:=omega) only [go_sem, Φa, hP, hops]
  refine ⟨i + 1, _, _, _, hi, (by show 3 ≤ 3; decide), .inr (by decide), ?_⟩
  try with_reducible refine stI ?_
  try simp (maxSteps:=1000000)(dsimp:=false)(disch:=omega) only [go_sem, Φa, hP, hops]
  refine hK2 _ _ ?_
  try clear hK2 K2
  refine SX.seq_k fun K3 hK3 => ?_
  refine SX.region_xd [some 15, some 16, some 5] rfl (fun ops hops => ?_)
  unfold Dsts at hops
  refine RX.cut_k 1 fun K4 hK4 => ?_
  simp (maxSteps:=1000000)(dsimp:=false)(disch:=omega) only [go_sem, Φa, hP, hops]
  refine hK4 _ _ ?_
  try clear hK4 K4
  refine RX.pcall rfl rfl rfl (hP ▸ T.callable_38) (by first | rfl | (try simp (maxSteps:=1000000)(dsimp:=false)(disch:=omega) only [go_sem, Φa, hP]) | skip) (byte_spec (i := i + 1) (rb := rb) (bv := bv) (xs := xs) (at_ := at_) (fr := (at_ : Int)) hP (get_set1 hi) (SlI.up1 hb) (by omega) hxl) ?_ ?_
  · intro ch_ L_ hpan
    try simp only [andThen_normal, andThen_ret, andThen_exit, inBlk_normal, inBlk_ret, inBlk_exit, Nat.reduceEqDiff, if_true, if_false, ↓reduceIte, andThen_panic, inBlk_panic, noGo_panic, retP_panic, retD_panic]
    obtain ⟨hend, rfl, rfl⟩ := hpan
    exact ⟨_, Less.drop _ _, recP_end hend, rfl, _, _, rfl⟩
  intro v_ L_ hret
  obtain ⟨h1, rfl, hret⟩ := hret
  simp only [List.set_cons_succ, List.set_set] at hret
  subst hret
  refine putVC_mk (by decide) ?_
  refine RX.done ?_
  simp (maxSteps:=1000000)(dsimp:=false)(disch:=omega) only [go_sem, Φa, hP, hops]
  refine hK3 _ _ ?_
  try clear hK3 K3
  refine SX.live [0, 1, 4, 5] (fun T1 hT1 => ?_)
  simp only [forall_mem_cons', forall_mem_nil', go_sem, Φa, hP] at hT1
  obtain ⟨h1_0, h1_1, h1_4, h1_5⟩ := hT1
  refine SX.seq_k fun K5 hK5 => ?_
  have hh := byte_D hby at_
  refine SX.region_d [some 17, some 18, some 19, some 20, some 21, some 22, some 23, some 24, some 25, some 26, some 27, some 28, some 29, some 30, some 31, some 32, some 6, none] rfl (fun ops hops => ?_)
  unfold Dsts at hops
  simp (maxSteps:=1000000)(dsimp:=false)(disch:=omega) only [go_sem, Φa, hP, h1_0, h1_1, h1_4, h1_5, hops]
  intro b6
  try with_reducible refine stI ?_
  try simp (maxSteps:=1000000)(dsimp:=false)(disch:=omega) only [go_sem, Φa, hP, h1_0, h1_1, h1_4, h1_5, hops]
  refine ⟨0, _, _, _, rfl, (by show 8 ≤ 8; decide), .inr (by decide), ?_⟩
  try with_reducible refine stI ?_
  try simp (maxSteps:=1000000)(dsimp:=false)(disch:=omega) only [go_sem, Φa, hP, h1_0, h1_1, h1_4, h1_5, hops]
  refine hK5 _ _ ?_
  try clear hK5 K5
  refine SX.live [0, 1, 4, 5, 6] (fun T2 hT2 => ?_)
  simp only [forall_mem_cons', forall_mem_nil', go_sem, Φa, hP, h1_0, h1_1, h1_4, h1_5] at hT2
  obtain ⟨h2_0, h2_1, h2_4, h2_5, h2_6⟩ := hT2
  clear h1_0 h1_1 h1_4 h1_5 T1
  refine SX.live [0, 1, 4, 5, 6] (fun T3 hT3 => ?_)
  simp only [forall_mem_cons', forall_mem_nil', go_sem, Φa, hP, h2_0, h2_1, h2_4, h2_5, h2_6] at hT3
  obtain ⟨h3_0, h3_1, h3_4, h3_5, h3_6⟩ := hT3
  clear h2_0 h2_1 h2_4 h2_5 h2_6 T2
  refine SX.join (fun (ss : (Rc) × (Nat)) T L' => (fun (x : Rc) (k : Nat) => T 0 = T3 0 ∧ T 1 = T3 1 ∧ T 4 = T3 4 ∧ T 5 = T3 5 ∧ T 6 = T3 6 ∧ L' = some (b6, .cells (Rc.cells x).toArray 46 (0, 0)) :: some (g4, .cells (Rc.cells ⟨0, 0, 0, false, false, 0, false, 0⟩).toArray 46 (0, 0)) :: L.set i (rdS rb bv ((at_ + k : Nat) : Int) at_) ∧ (hdX xs at_ next = (x, k) ∧ at_ + k ≤ xs.length)) (ss.1) (ss.2)) (fun K6 hK6 => ?_) ?_
  · simp only [h3_0, h3_1, h3_4, h3_5, h3_6] at hK6
    refine SX.seq_k fun K7 hK7 => ?_
    refine SX.region_d [some 33, some 34, some 35] rfl (fun ops hops => ?_)
    unfold Dsts at hops
    simp (maxSteps:=1000000)(dsimp:=false)(disch:=omega) only [go_sem, Φa, hP, h3_0, h3_1, h3_4, h3_5, h3_6, hops]
    repeat' ((first | refine And.intro (by omega) ?_ | fail); try (with_reducible refine stI ?_); try simp (maxSteps:=1000000)(dsimp:=false)(disch:=omega) only [go_sem, Φa, hP, h3_0, h3_1, h3_4, h3_5, h3_6, hops])
    refine hK7 _ _ ?_
    try clear hK7 K7
    refine SX.cond_k fun X8 Y8 hX8 hY8 => ?_
    simp (maxSteps:=1000000)(dsimp:=false)(disch:=omega) only [go_sem, Φa, hP, h3_0, h3_1, h3_4, h3_5, h3_6, condVC]
    refine ⟨fun hc35 => hX8 ?_, fun hc35 => hY8 ?_⟩
    · clear hX8 hY8 X8 Y8
      refine SX.seq_k fun K9 hK9 => ?_
      refine SX.region_xd [some 36, some 37, some 38, none] rfl (fun ops hops => ?_)
      unfold Dsts at hops
      refine RX.cut_k 1 fun K10 hK10 => ?_
      simp (maxSteps:=1000000)(dsimp:=false)(disch:=omega) only [go_sem, Φa, hP, h3_0, h3_1, h3_4, h3_5, h3_6, hops]
      refine hK10 _ _ ?_
      try clear hK10 K10
      have hmo : moreB (xs.getD at_ 0) = true := by simpa [moreB] using hc35
      refine RX.pcall rfl rfl rfl (hP ▸ T.callable_38) (by first | rfl | (try simp (maxSteps:=1000000)(dsimp:=false)(disch:=omega) only [go_sem, Φa, hP, h3_0, h3_1, h3_4, h3_5, h3_6]) | skip) (byte_spec (i := i + 2) (rb := rb) (bv := bv) (xs := xs) (at_ := at_ + 1) (fr := (at_ : Int)) hP (get_set2 hi) (SlI.up2 hb) (by omega) hxl) ?_ ?_
      · intro ch_ L_ hpan
        try simp only [andThen_normal, andThen_ret, andThen_exit, inBlk_normal, inBlk_ret, inBlk_exit, Nat.reduceEqDiff, if_true, if_false, ↓reduceIte, andThen_panic, inBlk_panic, noGo_panic, retP_panic, retD_panic]
        obtain ⟨hend, rfl, rfl⟩ := hpan
        exact ⟨_, Less.drops (Less.drop _ _), recP_short4 hmo (by omega), rfl, _, _, rfl⟩
      intro v_ L_ hret
      obtain ⟨h2, rfl, hret⟩ := hret
      simp only [List.set_cons_succ, List.set_set] at hret
      subst hret
      refine putVC_mk (by decide) ?_
      refine RX.done ?_
      simp (maxSteps:=1000000)(dsimp:=false)(disch:=omega) only [go_sem, Φa, hP, h3_0, h3_1, h3_4, h3_5, h3_6, hops]
      refine ⟨0, _, _, _, rfl, (by show 6 ≤ 8; decide), .inr (by decide), ?_⟩
      try with_reducible refine stI ?_
      try simp (maxSteps:=1000000)(dsimp:=false)(disch:=omega) only [go_sem, Φa, hP, h3_0, h3_1, h3_4, h3_5, h3_6, hops]
      refine hK9 _ _ ?_
      try clear hK9 K9
      refine SX.seq_k fun K11 hK11 => ?_
      refine SX.region_xd [some 39, some 40, some 7] rfl (fun ops hops => ?_)
      unfold Dsts at hops
      refine RX.cut_k 1 fun K12 hK12 => ?_
      simp (maxSteps:=1000000)(dsimp:=false)(disch:=omega) only [go_sem, Φa, hP, h3_0, h3_1, h3_4, h3_5, h3_6, hops]
      refine hK12 _ _ ?_
      try clear hK12 K12
      refine RX.pcall rfl rfl rfl (hP ▸ T.callable_38) (by first | rfl | (try simp (maxSteps:=1000000)(dsimp:=false)(disch:=omega) only [go_sem, Φa, hP, h3_0, h3_1, h3_4, h3_5, h3_6]) | skip) (byte_spec (i := i + 2) (rb := rb) (bv := bv) (xs := xs) (at_ := at_ + 1 + 1) (fr := (at_ : Int)) hP (get_set2 hi) (SlI.up2 hb) (by omega) hxl) ?_ ?_
      · intro ch_ L_ hpan
        try simp only [andThen_normal, andThen_ret, andThen_exit, inBlk_normal, inBlk_ret, inBlk_exit, Nat.reduceEqDiff, if_true, if_false, ↓reduceIte, andThen_panic, inBlk_panic, noGo_panic, retP_panic, retD_panic]
        obtain ⟨hend, rfl, rfl⟩ := hpan
        exact ⟨_, Less.drops (Less.drop _ _), recP_short4 hmo (by omega), rfl, _, _, rfl⟩
      intro v_ L_ hret
      obtain ⟨h3, rfl, hret⟩ := hret
      simp only [List.set_cons_succ, List.set_set] at hret
      subst hret
      refine putVC_mk (by decide) ?_
      refine RX.done ?_
      simp (maxSteps:=1000000)(dsimp:=false)(disch:=omega) only [go_sem, Φa, hP, h3_0, h3_1, h3_4, h3_5, h3_6, hops]
      refine hK11 _ _ ?_
      try clear hK11 K11
      refine SX.live [0, 1, 4, 5, 6, 7] (fun T4 hT4 => ?_)
      simp only [forall_mem_cons', forall_mem_nil', go_sem, Φa, hP, h3_0, h3_1, h3_4, h3_5, h3_6] at hT4
      obtain ⟨h4_0, h4_1, h4_4, h4_5, h4_6, h4_7⟩ := hT4
      clear h3_0 h3_1 h3_4 h3_5 h3_6 T3
      refine SX.region_xd [some 41, some 42, some 43, some 44, some 45, some 46, some 47, some 48, none] rfl (fun ops hops => ?_)
      unfold Dsts at hops
      refine RX.cut_k 3 fun K13 hK13 => ?_
      simp (maxSteps:=1000000)(dsimp:=false)(disch:=omega) only [go_sem, Φa, hP, h4_0, h4_1, h4_4, h4_5, h4_6, h4_7, hops]
      refine hK13 _ _ ?_
      try clear hK13 K13
      refine RX.pcall rfl rfl rfl (hP ▸ T.callable_38) (by first | rfl | (try simp (maxSteps:=1000000)(dsimp:=false)(disch:=omega) only [go_sem, Φa, hP, h4_0, h4_1, h4_4, h4_5, h4_6, h4_7]) | skip) (byte_spec (i := i + 2) (rb := rb) (bv := bv) (xs := xs) (at_ := at_ + 1 + 1 + 1) (fr := (at_ : Int)) hP (get_set2 hi) (SlI.up2 hb) (by omega) hxl) ?_ ?_
      · intro ch_ L_ hpan
        try simp only [andThen_normal, andThen_ret, andThen_exit, inBlk_normal, inBlk_ret, inBlk_exit, Nat.reduceEqDiff, if_true, if_false, ↓reduceIte, andThen_panic, inBlk_panic, noGo_panic, retP_panic, retD_panic]
        obtain ⟨hend, rfl, rfl⟩ := hpan
        exact ⟨_, Less.drops (Less.drop _ _), recP_short4 hmo (by omega), rfl, _, _, rfl⟩
      intro v_ L_ hret
      obtain ⟨h4, rfl, hret⟩ := hret
      simp only [List.set_cons_succ, List.set_set] at hret
      subst hret
      refine putVC_mk (by decide) ?_
      refine RX.done ?_
      simp (maxSteps:=1000000)(dsimp:=false)(disch:=omega) only [go_sem, Φa, hP, h4_0, h4_1, h4_4, h4_5, h4_6, h4_7, hops]
      refine ⟨0, _, _, _, rfl, (by show 2 ≤ 8; decide), .inr (by decide), ?_⟩
      try with_reducible refine stI ?_
      try simp (maxSteps:=1000000)(dsimp:=false)(disch:=omega) only [go_sem, Φa, hP, h4_0, h4_1, h4_4, h4_5, h4_6, h4_7, hops]
      refine hK6 ({ mk1 (xs.getD at_ 0) next with port := xs.getD (at_ + 1) 0, ad := adB (xs.getD (at_ + 2) 0) (xs.getD (at_ + 3) 0) }, 4) _ (some (b6, .cells (Rc.cells ({ mk1 (xs.getD at_ 0) next with port := xs.getD (at_ + 1) 0, ad := adB (xs.getD (at_ + 2) 0) (xs.getD (at_ + 3) 0) })).toArray 46 (0, 0)) :: some (g4, .cells (Rc.cells ⟨0, 0, 0, false, false, 0, false, 0⟩).toArray 46 (0, 0)) :: L.set i (rdS rb bv ((at_ + 4 : Nat) : Int) at_)) _ (by exact Less.refl _) ?_
      try dsimp only
      refine ⟨?_, ?_, ?_, ?_, ?_, ?_, ?_⟩
      · simp (maxSteps:=1000000)(dsimp:=false)(disch:=omega) only [go_sem, Φa, hP, h4_0, h4_1, h4_4, h4_5, h4_6, h4_7]
      · simp (maxSteps:=1000000)(dsimp:=false)(disch:=omega) only [go_sem, Φa, hP, h4_0, h4_1, h4_4, h4_5, h4_6, h4_7]
      · simp (maxSteps:=1000000)(dsimp:=false)(disch:=omega) only [go_sem, Φa, hP, h4_0, h4_1, h4_4, h4_5, h4_6, h4_7]
      · simp (maxSteps:=1000000)(dsimp:=false)(disch:=omega) only [go_sem, Φa, hP, h4_0, h4_1, h4_4, h4_5, h4_6, h4_7]
      · simp (maxSteps:=1000000)(dsimp:=false)(disch:=omega) only [go_sem, Φa, hP, h4_0, h4_1, h4_4, h4_5, h4_6, h4_7]
      · rfl
      · exact ⟨by rw [hdX_more hmo], by omega⟩
    · clear hX8 hY8 X8 Y8
      have hmo : moreB (xs.getD at_ 0) = false := by simpa [moreB] using hc35
      refine SX.skip ?_
      try simp only [andThen_normal, andThen_ret, andThen_exit, inBlk_normal, inBlk_ret, inBlk_exit, Nat.reduceEqDiff, if_true, if_false, ↓reduceIte]
      refine hK6 (mk1 (xs.getD at_ 0) next, 1) _ (some (b6, .cells (Rc.cells (mk1 (xs.getD at_ 0) next)).toArray 46 (0, 0)) :: some (g4, .cells (Rc.cells ⟨0, 0, 0, false, false, 0, false, 0⟩).toArray 46 (0, 0)) :: L.set i (rdS rb bv ((at_ + 1 : Nat) : Int) at_)) _ (by exact Less.refl _) ?_
      try dsimp only
      refine ⟨?_, ?_, ?_, ?_, ?_, ?_, ?_⟩
      · simp (maxSteps:=1000000)(dsimp:=false)(disch:=omega) only [go_sem, Φa, hP, h3_0, h3_1, h3_4, h3_5, h3_6]
      · simp (maxSteps:=1000000)(dsimp:=false)(disch:=omega) only [go_sem, Φa, hP, h3_0, h3_1, h3_4, h3_5, h3_6]
      · simp (maxSteps:=1000000)(dsimp:=false)(disch:=omega) only [go_sem, Φa, hP, h3_0, h3_1, h3_4, h3_5, h3_6]
      · simp (maxSteps:=1000000)(dsimp:=false)(disch:=omega) only [go_sem, Φa, hP, h3_0, h3_1, h3_4, h3_5, h3_6]
      · simp (maxSteps:=1000000)(dsimp:=false)(disch:=omega) only [go_sem, Φa, hP, h3_0, h3_1, h3_4, h3_5, h3_6]
      · rfl
      · exact ⟨by rw [hdX_one hmo], by omega⟩
  · intro ss T5 L5 hI
    obtain ⟨x, k⟩ := ss
    try dsimp only at hI 
    simp only [h3_0, h3_1, h3_4, h3_5, h3_6] at hI 
    obtain ⟨h5_0, h5_1, h5_4, h5_5, h5_6, hL5, ⟨hx, hk⟩⟩ := hI
    replace hL5 := hL5.symm
    subst hL5
    clear h3_0 h3_1 h3_4 h3_5 h3_6 T3
    refine SX.seq_k fun K14 hK14 => ?_
    refine SX.region_xd [some 49, some 50, some 51, none] rfl (fun ops hops => ?_)
    unfold Dsts at hops
    refine RX.cut_k 1 fun K15 hK15 => ?_
    simp (maxSteps:=1000000)(dsimp:=false)(disch:=omega) only [go_sem, Φa, hP, h5_0, h5_1, h5_4, h5_5, h5_6, hops]
    refine hK15 _ _ ?_
    try clear hK15 K15
    refine RX.pcall rfl rfl rfl (hP ▸ T.callable_38) (by first | rfl | (try simp (maxSteps:=1000000)(dsimp:=false)(disch:=omega) only [go_sem, Φa, hP, h5_0, h5_1, h5_4, h5_5, h5_6]) | skip) (byte_spec (i := i + 2) (rb := rb) (bv := bv) (xs := xs) (at_ := at_ + k) (fr := (at_ : Int)) hP (get_set2 hi) (SlI.up2 hb) (by omega) hxl) ?_ ?_
    · intro ch_ L_ hpan
      try simp only [andThen_normal, andThen_ret, andThen_exit, inBlk_normal, inBlk_ret, inBlk_exit, Nat.reduceEqDiff, if_true, if_false, ↓reduceIte, andThen_panic, inBlk_panic, noGo_panic, retP_panic, retD_panic]
      obtain ⟨hend, rfl, rfl⟩ := hpan
      exact ⟨_, Less.drops (Less.drop _ _), recP_short (by rw [hx]; exact Nat.le_of_eq hend.symm), rfl, _, _, rfl⟩
    intro v_ L_ hret
    obtain ⟨h5, rfl, hret⟩ := hret
    simp only [List.set_cons_succ, List.set_set] at hret
    subst hret
    refine putVC_mk (by decide) ?_
    refine RX.done ?_
    simp (maxSteps:=1000000)(dsimp:=false)(disch:=omega) only [go_sem, Φa, hP, h5_0, h5_1, h5_4, h5_5, h5_6, hops]
    refine ⟨0, _, _, _, rfl, (by show 3 ≤ 8; decide), .inr (by decide), ?_⟩
    try with_reducible refine stI ?_
    try simp (maxSteps:=1000000)(dsimp:=false)(disch:=omega) only [go_sem, Φa, hP, h5_0, h5_1, h5_4, h5_5, h5_6, hops]
    rw [show x.cells.set 2 (.int .u8 (xs.getD (at_ + k) 0)) = Rc.cells { x with data := xs.getD (at_ + k) 0 } from rfl]
    refine hK14 _ _ ?_
    try clear hK14 K14
    refine SX.seq_k fun K16 hK16 => ?_
    refine SX.seq_k fun K17 hK17 => ?_
    refine SX.region_xd [some 52, some 53, some 54, some 55, some 56, some 57, some 58, some 59, some 60, some 61, some 62, some 63, some 64, some 65, some 66, some 67, some 68, some 69, some 70] rfl (fun ops hops => ?_)
    unfold Dsts at hops
    refine RX.live [0, 1, 4, 5, 6] (fun T6 hT6 => ?_)
    simp only [forall_mem_cons', forall_mem_nil', go_sem, Φa, hP, h5_0, h5_1, h5_4, h5_5, h5_6] at hT6
    obtain ⟨h6_0, h6_1, h6_4, h6_5, h6_6⟩ := hT6
    clear h5_0 h5_1 h5_4 h5_5 h5_6 T5
    refine RX.join 19 (fun (ss : Unit) T L' => T 70 = .bool (!goodX (xs.getD at_ 0) next { x with data := xs.getD (at_ + k) 0 }) ∧ T 0 = T6 0 ∧ T 4 = T6 4 ∧ T 6 = T6 6 ∧ L' = some (b6, .cells (Rc.cells { x with data := xs.getD (at_ + k) 0 }).toArray 46 (0, 0)) :: some (g4, .cells (Rc.cells ⟨0, 0, 0, false, false, 0, false, 0⟩).toArray 46 (0, 0)) :: L.set i (rdS rb bv ((at_ + k + 1 : Nat) : Int) at_) ∧ (True)) (fun K18 hK18 => ?_) ?_
    · simp only [h6_0, h6_4, h6_6] at hK18
      simp (maxSteps:=1000000)(dsimp:=false)(disch:=omega) only [go_sem, Φa, hP, h6_0, h6_1, h6_4, h6_5, h6_6, hops]
      refine ⟨_, Cell.at 0 rfl (show (Rc.cells _)[0]? = _ from rfl), _, Cell.at 0 rfl (show (Rc.cells _)[1]? = _ from rfl), _, Cell.at 0 rfl (show (Rc.cells _)[2]? = _ from rfl), _, Cell.at 0 rfl (show (Rc.cells _)[3]? = _ from rfl), _, Cell.at 0 rfl (show (Rc.cells _)[4]? = _ from rfl), _, Cell.at 0 rfl (show (Rc.cells _)[5]? = _ from rfl), _, Cell.at 0 rfl (show (Rc.cells _)[6]? = _ from rfl), _, Cell.at 0 rfl (show (Rc.cells _)[7]? = _ from rfl), ?_⟩
      (try with_reducible refine stI ?_); try simp (maxSteps:=1000000)(dsimp:=false)(disch:=omega) only [go_sem, Φa, hP, h6_0, h6_1, h6_4, h6_5, h6_6, hops]
      repeat' (first | refine iteB (fun hg => ?_) (fun hg => ?_) | refine iteI (fun hg => ?_) (fun hg => ?_) | ((first | (refine SCall.mono (may_spec hP (x := { x with data := xs.getD (at_ + k) 0 })) ?_; rintro v_ L_ ⟨hv_, hL_⟩; rw [hv_, hL_]; clear hv_ hL_ v_ L_) | refine ⟨_, Cell.at 0 rfl (show (Rc.cells _)[1]? = _ from rfl), ?_⟩ | refine ⟨_, Cell.at 0 rfl (show (Rc.cells _)[5]? = _ from rfl), ?_⟩ | refine And.intro (by omega) ?_ | refine ⟨_, Cell.at 0 rfl rfl, _, Cell.at 0 rfl rfl, _, Cell.at 0 rfl rfl, _, Cell.at 0 rfl rfl, _, Cell.at 0 rfl rfl, _, Cell.at 0 rfl rfl, _, Cell.at 0 rfl rfl, _, Cell.at 0 rfl rfl, ?_⟩ | refine ⟨_, Cell.at 1 rfl rfl, _, Cell.at 1 rfl rfl, _, Cell.at 1 rfl rfl, _, Cell.at 1 rfl rfl, _, Cell.at 1 rfl rfl, _, Cell.at 1 rfl rfl, _, Cell.at 1 rfl rfl, _, Cell.at 1 rfl rfl, ?_⟩ | refine ⟨_, Cell.at 0 rfl rfl, ?_⟩ | refine ⟨_, Cell.at 1 rfl rfl, ?_⟩ | fail); try (with_reducible refine stI ?_); try simp (maxSteps:=1000000)(dsimp:=false)(disch:=omega) only [go_sem, Φa, hP, h6_0, h6_1, h6_4, h6_5, h6_6, hops]) | fail)
      all_goals
        refine hK18 () _ (some (b6, .cells (Rc.cells { x with data := xs.getD (at_ + k) 0 }).toArray 46 (0, 0)) :: some (g4, .cells (Rc.cells ⟨0, 0, 0, false, false, 0, false, 0⟩).toArray 46 (0, 0)) :: L.set i (rdS rb bv ((at_ + k + 1 : Nat) : Int) at_)) _ (by first | exact Less.refl _ | exact Less.drop _ _ | exact Less.drops (Less.drop _ _) | exact Less.drops (Less.drops (Less.drop _ _)) | exact Less.drops (Less.drops (Less.drops (Less.drop _ _))) | exact Less.drops (Less.drops (Less.drops (Less.drops (Less.drop _ _))))) ?_
        try dsimp only
        refine ⟨?_, ?_, ?_, ?_, ?_, ?_⟩
        · simp (maxSteps:=1000000)(dsimp:=false)(disch:=omega) only [go_sem, Φa, hP, h6_0, h6_1, h6_4, h6_5, h6_6]
          first | done | (refine congrArg Value.bool ?_; simp_all [goodX, moreB]; done) | (refine congrArg Value.bool ?_; simp_all [goodX, moreB, eq_comm]; done)
        · simp (maxSteps:=1000000)(dsimp:=false)(disch:=omega) only [go_sem, Φa, hP, h6_0, h6_1, h6_4, h6_5, h6_6]
        · simp (maxSteps:=1000000)(dsimp:=false)(disch:=omega) only [go_sem, Φa, hP, h6_0, h6_1, h6_4, h6_5, h6_6]
        · simp (maxSteps:=1000000)(dsimp:=false)(disch:=omega) only [go_sem, Φa, hP, h6_0, h6_1, h6_4, h6_5, h6_6]
        · rfl
        · trivial
    · intro ss T7 L7 hI
      simp only [h6_0, h6_4, h6_6] at hI 
      obtain ⟨h7_70, h7_0, h7_4, h7_6, hL7, hinv⟩ := hI
      replace hL7 := hL7.symm
      subst hL7
      clear h6_0 h6_1 h6_4 h6_5 h6_6 T6
      refine RX.done ?_
      simp (maxSteps:=1000000)(dsimp:=false)(disch:=omega) only [go_sem, Φa, hP, h7_70, h7_0, h7_4, h7_6, hops]
      refine hK17 _ _ ?_
      try clear hK17 K17
      refine SX.cond_k fun X19 Y19 hX19 hY19 => ?_
      simp (maxSteps:=1000000)(dsimp:=false)(disch:=omega) only [go_sem, Φa, hP, h7_70, h7_0, h7_4, h7_6, condVC]
      refine ⟨fun hc70 => hX19 ?_, fun hc70 => hY19 ?_⟩
      · clear hX19 hY19 X19 Y19
        refine SX.region_xd [some 71, some 72, some 73, some 74, some 75, none] rfl (fun ops hops => ?_)
        unfold Dsts at hops
        refine RX.cut_k 4 fun K20 hK20 => ?_
        simp (maxSteps:=1000000)(dsimp:=false)(disch:=omega) only [go_sem, Φa, hP, h7_70, h7_0, h7_4, h7_6, hops]
        refine ⟨_, rd_cell hi, ?_⟩
        try with_reducible refine stI ?_
        try simp (maxSteps:=1000000)(dsimp:=false)(disch:=omega) only [go_sem, Φa, hP, h7_70, h7_0, h7_4, h7_6, hops]
        refine hK20 _ _ ?_
        try clear hK20 K20
        refine RX.raise rfl rfl rfl rfl rfl (by rw [hP]; kernel_rfl) (by decide) ?_
        try simp (maxSteps:=1000000)(dsimp:=false)(disch:=omega) only [go_sem,Φa,hP,h7_70,h7_0,h7_4,h7_6,andThen_normal,andThen_ret,andThen_exit,inBlk_normal,inBlk_ret,inBlk_exit,Nat.reduceEqDiff,if_true,if_false,↓reduceIte,andThen_panic,inBlk_panic,noGo_panic,retP_panic,retD_panic]
        try simp only [andThen_normal, andThen_ret, andThen_exit, inBlk_normal, inBlk_ret, inBlk_exit, Nat.reduceEqDiff, if_true, if_false, ↓reduceIte, andThen_panic, inBlk_panic, noGo_panic, retP_panic, retD_panic]
        exact ⟨_, Less.drops (Less.drop _ _), recP_bad hx hc70, rfl, _, _, rfl⟩
      · clear hX19 hY19 X19 Y19
        refine SX.skip ?_
        try simp only [andThen_normal, andThen_ret, andThen_exit, inBlk_normal, inBlk_ret, inBlk_exit, Nat.reduceEqDiff, if_true, if_false, ↓reduceIte]
        refine hK16 _ _ ?_
        try clear hK16 K16
        refine SX.seq_k fun K21 hK21 => ?_
        refine SX.region_d [some 76, none] rfl (fun ops hops => ?_)
        unfold Dsts at hops
        simp (maxSteps:=1000000)(dsimp:=false)(disch:=omega) only [go_sem, Φa, hP, h7_70, h7_0, h7_4, h7_6, hops]
        refine ⟨_, Cell.at 0 rfl (show (Rc.cells _)[0]? = _ from rfl), _, Cell.at 0 rfl (show (Rc.cells _)[1]? = _ from rfl), _, Cell.at 0 rfl (show (Rc.cells _)[2]? = _ from rfl), _, Cell.at 0 rfl (show (Rc.cells _)[3]? = _ from rfl), _, Cell.at 0 rfl (show (Rc.cells _)[4]? = _ from rfl), _, Cell.at 0 rfl (show (Rc.cells _)[5]? = _ from rfl), _, Cell.at 0 rfl (show (Rc.cells _)[6]? = _ from rfl), _, Cell.at 0 rfl (show (Rc.cells _)[7]? = _ from rfl), ?_⟩
        try with_reducible refine stI ?_
        try simp (maxSteps:=1000000)(dsimp:=false)(disch:=omega) only [go_sem, Φa, hP, h7_70, h7_0, h7_4, h7_6, hops]
        refine ⟨1, _, _, _, rfl, (by show 8 ≤ 8; decide), .inr (by decide), ?_⟩
        try with_reducible refine stI ?_
        try simp (maxSteps:=1000000)(dsimp:=false)(disch:=omega) only [go_sem, Φa, hP, h7_70, h7_0, h7_4, h7_6, hops]
        refine hK21 _ _ ?_
        try clear hK21 K21
        refine SX.ret ?_
        simp only [andThen_normal, andThen_ret, andThen_exit, inBlk_normal, inBlk_ret, inBlk_exit, Nat.reduceEqDiff, if_true, if_false, ↓reduceIte, retP_ret]
        try simp only [res0,res1,res2,res3,stK_e,resX,resK,oneOr,ld_ptr,loadVC,loadN,List.nil_append,List.cons_append,Nat.reduceAdd,Nat.add_zero,Nat.zero_add,Addr.add_lit,Addr.add_zero',add_addS,T.elA_46,T.lay_46,T.szA_46,T.zr_46,Tryd.underlying46,go_sem,Φa,hP,h7_70,h7_0,h7_4,h7_6]
        refine ⟨_, _, Less.drops (Less.drop _ _), ⟨_, Cell.at 1 rfl rfl, _, Cell.at 1 rfl rfl, _, Cell.at 1 rfl rfl, _, Cell.at 1 rfl rfl, _, Cell.at 1 rfl rfl, _, Cell.at 1 rfl rfl, _, Cell.at 1 rfl rfl, _, Cell.at 1 rfl rfl, rfl⟩, ?_⟩
        exact ⟨_, _, recP_good hx h1 h5 hc70, rfl, rfl⟩

end Go.Proofs.YtcenlgofldnfcaaDoor
set_option linter.unusedVariables false
set_option linter.unusedSimpArgs false
namespace Go.Proofs.YtcenlgofldnfcaaDoor
open Go.RowKit Go.SX

/-! The closure that recovers. -/
set_option maxHeartbeats 1000000 in
set_option maxRecDepth 100000 in
theorem catch_spec {Γ : Ctx} (hP : Γ.P = Tryd.prog) {L : Hp} {b2 b3 b4 i2 i3 i4 : Nat} {v2 v3 v4 : Value} {p : Int}
    (h2 : L[i2]? = some (some (b2, .cells [v2].toArray 23 (0, 0)))) (h3 : (L.set i2 (some (b2, .cells [.slice none 0 0].toArray 23 (0, 0))))[i3]? = some (some (b3, .cells [v3].toArray 25 (0, 0))))
    (h4 : ((L.set i2 (some (b2, .cells [.slice none 0 0].toArray 23 (0, 0)))).set i3 (some (b3, .cells [.int .i64 91].toArray 25 (0, 0))))[i4]? = some (some (b4, .cells [v4].toArray 3 (0, 0)))) :
    DCall Γ 37 #[.pointer (some ⟨b2, 0, none⟩), .pointer (some ⟨b3, 0, none⟩), .pointer (some ⟨b4, 0, none⟩)] (.panicking (brk p)) L (fun u' L' => settle u' = .returning ∧ L' = ((L.set i2 (some (b2, .cells [.slice none 0 0].toArray 23 (0, 0)))).set i3 (some (b3, .cells [.int .i64 91].toArray 25 (0, 0)))).set i4 (some (b4, .cells [.int .i64 p].toArray 3 (0, 0)))) := fun w hi => by
  refine callsD_of_wpS (hP ▸ Tryd.func37) rfl fun c₀ cs hu => ?_
  apply wpS_seq
  apply wpS_region
  simp [wpOpsS, go_sem, recoverD, hu, brk, Tryd.ntmps37, Exit.thenS]
  apply wpS_seq
  apply wpS_region
  simp [wpOpsS, go_sem, hP, Exit.thenS]
  refine wpS_cond (t := true) (by simp [Act.eval, Array.replicate]) ?_
  simp only [if_true]
  generalize ha : Act.mk _ _ = a1
  have hs1 : a1.tmps.size = 18 := by rw [← ha]; rfl
  have hd1 : a1.defers = [] := by rw [← ha]
  have k0 : a1.tmps.getD 0 undef = .pointer (some ⟨b2, 0, none⟩) := by rw [← ha]; rfl
  have k1 : a1.tmps.getD 1 undef = .pointer (some ⟨b3, 0, none⟩) := by rw [← ha]; rfl
  have k2 : a1.tmps.getD 2 undef = .pointer (some ⟨b4, 0, none⟩) := by rw [← ha]; rfl
  have k3 : a1.tmps.getD 3 undef = .iface 62 (.int .i64 p) := by rw [← ha]; simp [Array.replicate]
  clear ha
  rw [← hP]
  refine wpS_of_wp (Code.wp_mono (Q := lift Γ [] 18 (fun e _ L' => e = .normal ∧ L' = ((L.set i2 (some (b2, .cells [.slice none 0 0].toArray 23 (0, 0)))).set i3 (some (b3, .cells [.int .i64 91].toArray 25 (0, 0)))).set i4 (some (b4, .cells [.int .i64 p].toArray 3 (0, 0))))) ?_ ((?key : SX Γ 18 _ _ (fun i => a1.tmps.getD i undef) L) [] a1 w ⟨hs1, hd1, fun _ => rfl⟩ hi))
  · rintro e a' w' ⟨T', L', hf, hi', rfl, rfl⟩
    exact ⟨hf.2.1, .panicking [{ v := .iface 62 (.int .i64 p), recovered := true }], rfl, .tuple #[], results_none rfl _ _ _, ⟨_, rfl⟩, hi', rfl⟩
  generalize hT : (fun i => a1.tmps.getD i undef) = T9
  have h9_0 : T9 0 = .pointer (some ⟨b2, 0, none⟩) := by rw [← hT]; exact k0
  have h9_1 : T9 1 = .pointer (some ⟨b3, 0, none⟩) := by rw [← hT]; exact k1
  have h9_2 : T9 2 = .pointer (some ⟨b4, 0, none⟩) := by rw [← hT]; exact k2
  have h9_3 : T9 3 = .iface 62 (.int .i64 p) := by rw [← hT]; exact k3
  clear hT k0 k1 k2 k3 hs1 hd1
  refine SX.seq_k fun K1 hK1 => ?_
  refine SX.region_xd [some 10, some 11, some 9, some 12, some 13, some 4, some 5] rfl (fun ops hops => ?_)
  unfold Dsts at hops
  refine RX.cut_k 1 fun K2 hK2 => ?_
  simp (maxSteps := 1000000) (dsimp := false) (disch := omega) only [go_sem, ia_someH, hP, h9_0, h9_1, h9_2, h9_3, hops]
  refine hK2 _ _ ?_
  try clear hK2 K2
  refine RX.value (v := .tuple #[.int .i64 p, .bool true]) rfl (fun w => by simp only [execOp, ev]; simp [upd_app, h9_3, run_assert (show plainT Γ.P 62 = true by rw [hP]; kernel_rfl)]) (putVC_mk (by decide) ?_)
  refine RX.done ?_
  simp (maxSteps := 1000000) (dsimp := false) (disch := omega) only [go_sem, ia_someH, hP, h9_0, h9_1, h9_2, h9_3, hops]
  refine hK1 _ _ ?_
  try clear hK1 K1
  refine SX.seq_k fun K3 hK3 => ?_
  refine SX.seq_k fun K4 hK4 => ?_
  refine SX.region_d [some 14, some 15] rfl (fun ops hops => ?_)
  unfold Dsts at hops
  simp (maxSteps := 1000000) (dsimp := false) (disch := omega) only [go_sem, ia_someH, hP, h9_0, h9_1, h9_2, h9_3, hops]
  refine hK4 _ _ ?_
  try clear hK4 K4
  refine SX.live [0, 1, 2, 3, 4, 15] (fun T1 hT1 => ?_)
  simp only [forall_mem_cons', forall_mem_nil', go_sem, ia_someH, hP, h9_0, h9_1, h9_2, h9_3] at hT1
  obtain ⟨h1_0, h1_1, h1_2, h1_3, h1_4, h1_15⟩ := hT1
  clear h9_0 h9_1 h9_2 h9_3 T9
  refine SX.cond_k fun X5 Y5 hX5 hY5 => ?_
  simp (maxSteps := 1000000) (dsimp := false) (disch := omega) only [go_sem, ia_someH, hP, h1_0, h1_1, h1_2, h1_3, h1_4, h1_15, condVC]
  refine hY5 ?_
  clear hX5 hY5 X5 Y5
  refine SX.skip ?_
  try simp only [andThen_normal, andThen_ret, andThen_exit, inBlk_normal, inBlk_ret, inBlk_exit, Nat.reduceEqDiff, if_true, if_false, ↓reduceIte]
  refine hK3 _ _ ?_
  try clear hK3 K3
  refine SX.region_d [some 17, none, none, none] rfl (fun ops hops => ?_)
  unfold Dsts at hops
  simp (maxSteps := 1000000) (dsimp := false) (disch := omega) only [go_sem, ia_someH, hP, h1_0, h1_1, h1_2, h1_3, h1_4, h1_15, hops]
  refine ⟨i2, _, _, _, h2, (by show 1 ≤ 1; decide), .inr (by decide), ?_⟩
  try with_reducible refine stI ?_
  try simp (maxSteps := 1000000) (dsimp := false) (disch := omega) only [go_sem, ia_someH, hP, h1_0, h1_1, h1_2, h1_3, h1_4, h1_15, hops]
  refine ⟨i3, _, _, _, h3, (by show 1 ≤ 1; decide), .inr (by decide), ?_⟩
  try with_reducible refine stI ?_
  try simp (maxSteps := 1000000) (dsimp := false) (disch := omega) only [go_sem, ia_someH, hP, h1_0, h1_1, h1_2, h1_3, h1_4, h1_15, hops]
  refine ⟨i4, _, _, _, h4, (by show 1 ≤ 1; decide), .inr (by decide), ?_⟩
  try with_reducible refine stI ?_
  try simp (maxSteps := 1000000) (dsimp := false) (disch := omega) only [go_sem, ia_someH, hP, h1_0, h1_1, h1_2, h1_3, h1_4, h1_15, hops]
set_option maxHeartbeats 1000000 in
set_option maxRecDepth 100000 in
theorem idle_spec {Γ : Ctx} (hP : Γ.P = Tryd.prog) {L : Hp} {a b c : Value} : DCall Γ 37 #[a, b, c] .returning L (fun u' L' => settle u' = .returning ∧ L' = L) := fun w hi => by
  refine callsD_of_wpS (hP ▸ Tryd.func37) rfl fun c₀ cs hu => ?_
  apply wpS_seq
  apply wpS_region
  simp [wpOpsS, go_sem, recoverD, hu, Tryd.ntmps37, Exit.thenS]
  apply wpS_seq
  apply wpS_region
  simp [wpOpsS, go_sem, hP, Exit.thenS]
  refine wpS_cond (t := false) (by simp [Act.eval, Array.replicate]) ?_
  simp only [Bool.false_eq_true, if_false]
  refine wpS_of_wp (wp_skip ?_)
  refine ⟨rfl, .returning, ?_, .tuple #[], results_none rfl _ _ _, ⟨_, rfl⟩, hi, rfl⟩
  cases c₀
  simp_all

end Go.Proofs.YtcenlgofldnfcaaDoor
set_option linter.unusedVariables false
set_option linter.unusedSimpArgs false
namespace Go.Proofs.YtcenlgofldnfcaaDoor
open Go.RowKit Go.SX
open Go.SX renaming ia_someH → Φa

/-! Unpack. -/
def mgc : List Int := [86, 84, 82, 49]
def nP (xs : List Int) : Nat → Int
  | 0 => 0
  | i + 1 => bits .or .i64 (nP xs i) (IntKind.i64.wrap (IntKind.i64.wrap (xs.getD (4 + i) 0) * 2 ^ min (8 * i) 64))
inductive Rd where
  | bad (p : Nat)
  | good (l : List Rc) (e : Nat)
def recsP (xs : List Int) : Nat → Nat → Int → Rd
  | 0, at_, _ => .good [] at_
  | n + 1, at_, next => match recP xs at_ next with
    | none => .bad at_
    | some (x, k) => match recsP xs n (at_ + k) (IntKind.u16.wrap (x.ad + 1)) with
      | .good l e => .good (x :: l) e
      | .bad p => .bad p
def Rd.pre (l : List Rc) : Rd → Rd
  | .good m e => .good (l ++ m) e
  | .bad p => .bad p
theorem Rd.pre_nil (r : Rd) : r = r.pre [] := by cases r <;> rfl
def headOk (xs : List Int) : Bool := decide (8 ≤ xs.length) && decide (xs.getD 0 0 = 86) && decide (xs.getD 1 0 = 84) && decide (xs.getD 2 0 = 82) && decide (xs.getD 3 0 = 49)
def unpP (xs : List Int) : List Rc × Int × Int :=
  if headOk xs = true then
    if 4194304 < nP xs 4 then ([], 91, 0) else
    match recsP xs (nP xs 4).toNat 8 0 with
    | .bad p => ([], 91, (p : Int))
    | .good l e => if e < xs.length then ([], 91, (e : Int)) else (l, 0, 0)
  else ([], 91, 0)
def UnpR (xs : List Int) (L : Hp) (v : Value) (L' : Hp) : Prop := ∃ vo so, v = .tuple #[vo, .int .i64 (unpP xs).2.1, .int .i64 (unpP xs).2.2] ∧ L' = so :: L ∧ RowL Rc.cells 46 8 vo (unpP xs).1 so
theorem head_no {xs : List Int} {i : Nat} (hi : i < 4) (h : ¬ xs.getD i 0 = mgc.getD i 0) : unpP xs = ([], 91, 0) := by
  refine if_neg ?_
  unfold headOk
  have e : ∀ {a : Int} {b : Int}, ¬ a = b → decide (a = b) = false := fun h => decide_eq_false h
  match i, hi, h with
  | 0, _, h => rw [e (show ¬ xs.getD 0 0 = 86 from h)]; simp
  | 1, _, h => rw [e (show ¬ xs.getD 1 0 = 84 from h)]; simp
  | 2, _, h => rw [e (show ¬ xs.getD 2 0 = 82 from h)]; simp
  | 3, _, h => rw [e (show ¬ xs.getD 3 0 = 49 from h)]; simp
theorem head_short {xs : List Int} (h : xs.length < 8) : unpP xs = ([], 91, 0) := by
  refine if_neg ?_
  unfold headOk
  simp [show ¬ 8 ≤ xs.length by omega]
theorem head_yes {xs : List Int} (h : 8 ≤ xs.length) (hm : ∀ j, j < 4 → xs.getD j 0 = mgc.getD j 0) : headOk xs = true := by
  have h0 := hm 0 (by omega); have h1 := hm 1 (by omega); have h2 := hm 2 (by omega); have h3 := hm 3 (by omega)
  unfold headOk
  rw [h0, h1, h2, h3, decide_eq_true h]
  rfl
theorem unp_big {xs : List Int} (h : headOk xs = true) (hn : 4194304 < nP xs 4) : unpP xs = ([], 91, 0) := by unfold unpP; rw [if_pos h, if_pos hn]
theorem unp_bad {xs : List Int} {p : Nat} (h : headOk xs = true) (hn : ¬ 4194304 < nP xs 4) (hr : recsP xs (nP xs 4).toNat 8 0 = .bad p) : unpP xs = ([], 91, (p : Int)) := by unfold unpP; rw [if_pos h, if_neg hn, hr]
theorem unp_more {xs : List Int} {l : List Rc} {e : Nat} (h : headOk xs = true) (hn : ¬ 4194304 < nP xs 4) (hr : recsP xs (nP xs 4).toNat 8 0 = .good l e) (he : e < xs.length) : unpP xs = ([], 91, (e : Int)) := by unfold unpP; rw [if_pos h, if_neg hn, hr]; exact if_pos he
theorem unp_ok {xs : List Int} {l : List Rc} {e : Nat} (h : headOk xs = true) (hn : ¬ 4194304 < nP xs 4) (hr : recsP xs (nP xs 4).toNat 8 0 = .good l e) (he : ¬ e < xs.length) : unpP xs = (l, 0, 0) := by unfold unpP; rw [if_pos h, if_neg hn, hr]; exact if_neg he
theorem recs_step {xs : List Int} {n at_ k : Nat} {next : Int} {l : List Rc} {x : Rc} (h : recP xs at_ next = some (x, k)) : (recsP xs (n + 1) at_ next).pre l = (recsP xs n (at_ + k) (IntKind.u16.wrap (x.ad + 1))).pre (l ++ [x]) := by
  rw [recsP, h]
  dsimp only
  cases recsP xs n (at_ + k) (IntKind.u16.wrap (x.ad + 1)) with
  | bad p => rfl
  | good m e => show Rd.good _ _ = Rd.good _ _; rw [List.append_assoc]; rfl
theorem recs_fail {xs : List Int} {n at_ : Nat} {next : Int} {l : List Rc} (h : recP xs at_ next = none) : (recsP xs (n + 1) at_ next).pre l = .bad at_ := by rw [recsP, h]; rfl
theorem recP_pos {xs : List Int} {at_ k : Nat} {next : Int} {x : Rc} (h : recP xs at_ next = some (x, k)) : 1 ≤ k ∧ at_ + k ≤ xs.length := by
  unfold recP at h
  split at h
  · cases h
  · split at h
    · cases h
    · split at h
      · cases h; omega
      · cases h
theorem sl5 {Γ : Ctx} {L : Hp} {a b c d : Slot} {k : IntKind} {v : Value} {xs : List Int} (h : SlI k (Cell Γ L) v xs) (s : Slot) (e : Slot) : SlI k (Cell Γ ((s :: a :: b :: c :: d :: L).set 0 e)) v xs := SlI.mono (fun _ _ h => Cell.cons _ (Cell.cons _ (Cell.cons _ (Cell.cons _ (Cell.cons _ h))))) h
theorem put_rc {x : Rc} {l : List Value} (h : l.length = 8) : setN l 0 x.cells = x.cells := by
  have e := setN_app x.cells [] l (by rw [h]; exact Nat.le_refl 8)
  rw [List.nil_append, List.length_nil, List.nil_append, List.drop_of_length_le (by rw [h]; exact Nat.le_refl 8), List.append_nil] at e
  exact e
theorem mgc_at {i : Nat} (h : i < 4) : ∃ b : UInt8, (⟨#[86, 84, 82, 49]⟩ : ByteArray).data.toList[i]? = some b ∧ (b.toNat : Int) = mgc.getD i 0 := by
  match i, h with
  | 0, _ | 1, _ | 2, _ | 3, _ => exact ⟨_, rfl, rfl⟩
theorem less_fin {a b c d e : Slot} {L : Hp} : Less (a :: b :: c :: d :: e :: L) (e :: L) := Less.drops (Less.drops (Less.drops (Less.drop _ _)))
theorem less_fin0 {a b c d e : Slot} {L : Hp} : Less (a :: b :: c :: d :: e :: L) (none :: L) := Less.drops (Less.drops (Less.drops (Less.drops (Less.drops (Less.none L)))))
theorem less_in3 {a b c : Slot} {L : Hp} : Less (a :: b :: c :: L) (a :: b :: c :: none :: L) :=
  (Less.none _).trans (Less.perm ((List.Perm.swap _ _ _).trans (.cons _ ((List.Perm.swap _ _ _).trans (.cons _ (List.Perm.swap _ _ _))))))
set_option maxHeartbeats 1000000 in
theorem caught {Γ : Ctx} (hP : Γ.P = Tryd.prog) {L : Hp} {xs : List Int} {T1 : Env} {rd so : Slot} {vo : Value} {b2 b3 b4 : Nat} {p : Int} {a : Array Value} (ha : a = #[.pointer (some ⟨b2, 0, none⟩), .pointer (some ⟨b3, 0, none⟩), .pointer (some ⟨b4, 0, none⟩)])
    (h2 : T1 2 = .pointer (some ⟨b2, 0, none⟩)) (h3 : T1 3 = .pointer (some ⟨b3, 0, none⟩)) (h4 : T1 4 = .pointer (some ⟨b4, 0, none⟩)) (hr : unpP xs = ([], 91, p)) :
    DCall Γ 37 a (.panicking (brk p)) (rd :: some (b4, .cells [.int .i64 0].toArray 3 (0, 0)) :: some (b3, .cells [.int .i64 0].toArray 25 (0, 0)) :: some (b2, .cells [vo].toArray 23 (0, 0)) :: so :: L) (leftR (resX Γ [.cell 2 23, .cell 3 25, .cell 4 3]) (UnpR xs L) T1) := by
  subst ha
  refine DCall.mono (catch_spec hP (i2 := 3) (i3 := 2) (i4 := 1) rfl rfl rfl) (fun u' L' hx => ?_)
  obtain ⟨hs, rfl⟩ := hx
  refine ⟨hs, .tuple #[.slice none 0 0, .int .i64 91, .int .i64 p], _, less_fin0, ?_, .slice none 0 0, none, by rw [hr], rfl, by rw [hr]; exact RowL.nil _ _ _⟩
  unfold resX
  simp (dsimp := false) only [go_sem, resK, oneOr, ld_ptr, hP, h2, h3, h4, List.nil_append, List.cons_append, Addr.add_lit, Addr.add_zero', T.szA_23, T.szA_25, T.szA_3, loadVC]
  exact ⟨_, Cell.at 3 rfl rfl, _, Cell.at 2 rfl rfl, _, Cell.at 1 rfl rfl, rfl⟩
set_option maxHeartbeats 1000000 in
set_option maxRecDepth 100000 in
theorem Unpack_spec {Γ : Ctx} (hP : Γ.P = Tryd.prog) {L : Hp} {vb : Value} {xs : List Int} (hb : SlI .u8 (Cell Γ L) vb xs) (hxl : xs.length ≤ 2147483647) (hby : Byte xs) :
    SCall Γ 18 #[vb] L (UnpR xs L) := by
  obtain ⟨vA, vC, rfl, hvc⟩ := Sl.shape hb
  refine SCall.enter_defer (n := 67) (resX Γ [.cell 2 23, .cell 3 25, .cell 4 3]) (hP ▸ Tryd.func18) rfl rfl (by simp) (fun ds => resX_ok rfl) rfl rfl rfl (by decide) rfl rfl rfl rfl rfl (hP ▸ T.callable_37) ?_
  refine SX.region_d [some 2, some 3, some 4] rfl (fun ops hops => ?_)
  unfold Dsts at hops
  simp (maxSteps:=1000000)(dsimp:=false)(disch:=omega) only [go_sem, Φa, hP, hops]
  intro b2
  try with_reducible refine stI ?_
  try simp (maxSteps:=1000000)(dsimp:=false)(disch:=omega) only [go_sem, Φa, hP, hops]
  intro b3
  try with_reducible refine stI ?_
  try simp (maxSteps:=1000000)(dsimp:=false)(disch:=omega) only [go_sem, Φa, hP, hops]
  intro b4
  try with_reducible refine stI ?_
  try simp (maxSteps:=1000000)(dsimp:=false)(disch:=omega) only [go_sem, Φa, hP, hops]
  refine SX.live [0, 2, 3, 4] (fun T1 hT1 => ?_)
  simp only [forall_mem_cons', forall_mem_nil', go_sem, Φa, hP] at hT1
  obtain ⟨h1_0, h1_2, h1_3, h1_4⟩ := hT1
  refine SX.seq_k fun K1 hK1 => ?_
  refine SX.less less_in3 ?_
  refine SX.region_d [some 12, some 13, some 14, some 5] rfl (fun ops hops => ?_)
  unfold Dsts at hops
  simp (maxSteps:=1000000)(dsimp:=false)(disch:=omega) only [go_sem, Φa, hP, h1_0, h1_2, h1_3, h1_4, hops]
  intro rb
  try with_reducible refine stI ?_
  try simp (maxSteps:=1000000)(dsimp:=false)(disch:=omega) only [go_sem, Φa, hP, h1_0, h1_2, h1_3, h1_4, hops]
  refine hK1 _ _ ?_
  try clear hK1 K1
  refine SX.seq_k fun K2 hK2 => ?_
  refine SX.seq_k fun K3 hK3 => ?_
  refine SX.region_d [some 15] rfl (fun ops hops => ?_)
  unfold Dsts at hops
  simp (maxSteps:=1000000)(dsimp:=false)(disch:=omega) only [go_sem, Φa, hP, h1_0, h1_2, h1_3, h1_4, hops]
  refine hK3 _ _ ?_
  try clear hK3 K3
  refine SX.block ?_
  refine SX.live [0, 2, 3, 4, 5, 15] (fun T2 hT2 => ?_)
  simp only [forall_mem_cons', forall_mem_nil', go_sem, Φa, hP, h1_0, h1_2, h1_3, h1_4] at hT2
  obtain ⟨h2_0, h2_2, h2_3, h2_4, h2_5, h2_15⟩ := hT2
  clear h1_0 h1_2 h1_3 h1_4 T1
  refine SX.loop_k (fun (ss : (Nat)) T L' => (fun (i : Nat) => T 15 = .int .i64 (i : Int) ∧ T 0 = T2 0 ∧ T 2 = T2 2 ∧ T 3 = T2 3 ∧ T 4 = T2 4 ∧ T 5 = T2 5 ∧ L' = rdS rb (.slice vA xs.length vC) ((i : Nat) : Int) 0 :: some (b4, .cells [.int .i64 0].toArray 3 (0, 0)) :: some (b3, .cells [.int .i64 0].toArray 25 (0, 0)) :: some (b2, .cells [.slice none 0 0].toArray 23 (0, 0)) :: none :: L ∧ (i ≤ 4 ∧ i ≤ xs.length ∧ ∀ j, j < i → xs.getD j 0 = mgc.getD j 0)) (ss)) (fun (ss : (Nat)) => (fun (i : Nat) => 4 - i) (ss)) 0 ?_ ?_
  · try dsimp only
    refine ⟨?_, ?_, ?_, ?_, ?_, ?_, ?_, ?_⟩
    · first | exact h2_15 | (rw [h2_15]; rfl) | (rw [h2_15]; simp; done)
    · rfl
    · rfl
    · rfl
    · rfl
    · rfl
    · rfl
    · exact ⟨Nat.zero_le _, Nat.zero_le _, fun j hj => absurd hj (Nat.not_lt_zero _)⟩
  · intro i T3 L3 hI K4 hK4
    try dsimp only at hI hK4
    simp only [h2_0, h2_2, h2_3, h2_4, h2_5] at hI hK4
    obtain ⟨h3_15, h3_0, h3_2, h3_3, h3_4, h3_5, hL3, ⟨hi, hil, him⟩⟩ := hI
    replace hL3 := hL3.symm
    subst hL3
    clear h2_0 h2_2 h2_3 h2_4 h2_5 h2_15 T2
    refine SX.seq_k fun K5 hK5 => ?_
    refine SX.region_d [some 16] rfl (fun ops hops => ?_)
    unfold Dsts at hops
    simp (maxSteps:=1000000)(dsimp:=false)(disch:=omega) only [go_sem, Φa, hP, h3_15, h3_0, h3_2, h3_3, h3_4, h3_5, hops]
    repeat' ((first | refine And.intro (by omega) ?_ | fail); try (with_reducible refine stI ?_); try simp (maxSteps:=1000000)(dsimp:=false)(disch:=omega) only [go_sem, Φa, hP, h3_15, h3_0, h3_2, h3_3, h3_4, h3_5, hops])
    refine hK5 _ _ ?_
    try clear hK5 K5
    refine SX.seq_k fun K6 hK6 => ?_
    refine SX.cond_k fun X7 Y7 hX7 hY7 => ?_
    simp (maxSteps:=1000000)(dsimp:=false)(disch:=omega) only [go_sem, Φa, hP, h3_15, h3_0, h3_2, h3_3, h3_4, h3_5, condVC]
    refine ⟨fun hc16 => hX7 ?_, fun hc16 => hY7 ?_⟩
    · clear hX7 hY7 X7 Y7
      refine SX.skip ?_
      try simp only [andThen_normal, andThen_ret, andThen_exit, inBlk_normal, inBlk_ret, inBlk_exit, Nat.reduceEqDiff, if_true, if_false, ↓reduceIte]
      refine hK6 _ _ ?_
      try clear hK6 K6
      refine SX.seq_k fun K8 hK8 => ?_
      refine SX.block ?_
      refine SX.seq_k fun K9 hK9 => ?_
      refine SX.region_d [some 17, some 6] rfl (fun ops hops => ?_)
      unfold Dsts at hops
      simp (maxSteps:=1000000)(dsimp:=false)(disch:=omega) only [go_sem, Φa, hP, h3_15, h3_0, h3_2, h3_3, h3_4, h3_5, hops]
      refine hK9 _ _ ?_
      try clear hK9 K9
      refine SX.seq_k fun K10 hK10 => ?_
      refine SX.drawn_p (PP := fun ch L' => i = xs.length ∧ ch = brk 0 ∧ L' = rdS rb (.slice vA xs.length vC) ((i : Nat) : Int) 0 :: some (b4, .cells [.int .i64 0].toArray 3 (0, 0)) :: some (b3, .cells [.int .i64 0].toArray 25 (0, 0)) :: some (b2, .cells [.slice none 0 0].toArray 23 (0, 0)) :: none :: L) [2, 3, 4] [(0, false), (2, false), (3, false), (1, true), (4, false)] (hP ▸ T.mixed) (by kernel_rfl) ?_ ?_
      · rintro ch T' L' hk_ ⟨he, rfl, rfl⟩
        have k2 := (hk_ 2 (by decide))
        have k3 := (hk_ 3 (by decide))
        have k4 := (hk_ 4 (by decide))
        simp only [andThen_panic, inBlk_panic, retD_panic]
        exact caught hP (by first | rfl | simp) (by first | assumption | simp [upd_app, *]) (by first | assumption | simp [upd_app, *]) (by first | assumption | simp [upd_app, *]) (head_short (by omega))
      obtain ⟨mb, hmb, hmbe⟩ := mgc_at (show i < 4 by omega)
      refine VCpp_q rfl rfl (v := .pointer (some ⟨rb, 0, none⟩)) (by unfold VQ; simp [ev, upd_app, *]) (putVC_mk (by decide) ?_)
      refine VCpp_q rfl rfl (v := .int .i64 (i : Int)) (by unfold VQ; simp [ev, upd_app, *]) (putVC_mk (by decide) ?_)
      refine VCpp_q rfl rfl (v := .int .u8 (mgc.getD i 0)) (by unfold VQ indexVC; simp only [ev, upd_app]; exact ⟨hP ▸ Tryd.underlying9, Int.natCast_nonneg _, mb, hmb, by rw [hmbe]⟩) (putVC_mk (by decide) ?_)
      refine VCpp_c rfl rfl rfl (hP ▸ T.callable_38) (by simp [ev, upd_app]) (PCall.mono (byte_spec (i := 0) (rb := rb) (bv := .slice vA xs.length vC) (xs := xs) (at_ := i) (fr := 0) hP rfl (sl5 hb _ _) (by omega) (by omega)) ?_ (fun ch L' h => h))
      rintro v L' ⟨hlt, rfl, rfl⟩
      refine putVC_mk (by decide) ?_
      refine VCpp_q rfl rfl (v := .bool (!decide (xs.getD i 0 = mgc.getD i 0))) (by unfold VQ binVC; simp only [ev, upd_app]; exact ⟨rfl, rfl⟩) (putVC_mk (by decide) ?_)
      simp only [VCpp, andThen_normal, inBlk_normal, List.set_cons_zero]
      refine hK10 _ _ ?_
      try clear hK10 K10
      refine SX.cond_k fun X11 Y11 hX11 hY11 => ?_
      simp (maxSteps:=1000000)(dsimp:=false)(disch:=omega) only [go_sem, Φa, hP, h3_15, h3_0, h3_2, h3_3, h3_4, h3_5, condVC]
      refine ⟨fun hc22 => hX11 ?_, fun hc22 => hY11 ?_⟩
      · clear hX11 hY11 X11 Y11
        refine SX.region_xd [some 23, none] rfl (fun ops hops => ?_)
        unfold Dsts at hops
        refine RX.raise rfl rfl rfl rfl rfl (by rw [hP]; kernel_rfl) (by decide) ?_
        try simp (maxSteps:=1000000)(dsimp:=false)(disch:=omega) only [go_sem,Φa,hP,h3_15,h3_0,h3_2,h3_3,h3_4,h3_5,andThen_normal,andThen_ret,andThen_exit,inBlk_normal,inBlk_ret,inBlk_exit,Nat.reduceEqDiff,if_true,if_false,↓reduceIte,andThen_panic,inBlk_panic,noGo_panic,retP_panic,retD_panic]
        try simp only [andThen_normal, andThen_ret, andThen_exit, inBlk_normal, inBlk_ret, inBlk_exit, Nat.reduceEqDiff, if_true, if_false, ↓reduceIte, andThen_panic, inBlk_panic, noGo_panic, retP_panic, retD_panic]
        exact caught hP (by first | rfl | simp) (by first | assumption | simp [upd_app, *]) (by first | assumption | simp [upd_app, *]) (by first | assumption | simp [upd_app, *]) (head_no (i := i) (by omega) hc22)
      · clear hX11 hY11 X11 Y11
        refine SX.skip ?_
        try simp only [andThen_normal, andThen_ret, andThen_exit, inBlk_normal, inBlk_ret, inBlk_exit, Nat.reduceEqDiff, if_true, if_false, ↓reduceIte]
        refine hK8 _ _ ?_
        try clear hK8 K8
        refine SX.region_d [some 24, some 15] rfl (fun ops hops => ?_)
        unfold Dsts at hops
        simp (maxSteps:=1000000)(dsimp:=false)(disch:=omega) only [go_sem, Φa, hP, h3_15, h3_0, h3_2, h3_3, h3_4, h3_5, hops]
        repeat' ((first | refine And.intro (by omega) ?_ | fail); try (with_reducible refine stI ?_); try simp (maxSteps:=1000000)(dsimp:=false)(disch:=omega) only [go_sem, Φa, hP, h3_15, h3_0, h3_2, h3_3, h3_4, h3_5, hops])
        refine hK4 (i + 1) _ (rdS rb (.slice vA xs.length vC) ((((i + 1)) : Nat) : Int) 0 :: some (b4, .cells [.int .i64 0].toArray 3 (0, 0)) :: some (b3, .cells [.int .i64 0].toArray 25 (0, 0)) :: some (b2, .cells [.slice none 0 0].toArray 23 (0, 0)) :: none :: L) _ (by first | exact Less.refl _ | exact Less.drop _ _ | exact Less.drops (Less.drop _ _) | exact Less.drops (Less.drops (Less.drop _ _)) | exact Less.drops (Less.drops (Less.drops (Less.drop _ _))) | exact Less.drops (Less.drops (Less.drops (Less.drops (Less.drop _ _))))) ?_ ?_
        · try dsimp only
          refine ⟨?_, ?_, ?_, ?_, ?_, ?_, ?_, ?_⟩
          · simp (maxSteps:=1000000)(dsimp:=false)(disch:=omega) only [go_sem, Φa, hP, h3_15, h3_0, h3_2, h3_3, h3_4, h3_5]
            first | done | rfl | skip
          · simp (maxSteps:=1000000)(dsimp:=false)(disch:=omega) only [go_sem, Φa, hP, h3_15, h3_0, h3_2, h3_3, h3_4, h3_5]
          · simp (maxSteps:=1000000)(dsimp:=false)(disch:=omega) only [go_sem, Φa, hP, h3_15, h3_0, h3_2, h3_3, h3_4, h3_5]
          · simp (maxSteps:=1000000)(dsimp:=false)(disch:=omega) only [go_sem, Φa, hP, h3_15, h3_0, h3_2, h3_3, h3_4, h3_5]
          · simp (maxSteps:=1000000)(dsimp:=false)(disch:=omega) only [go_sem, Φa, hP, h3_15, h3_0, h3_2, h3_3, h3_4, h3_5]
          · simp (maxSteps:=1000000)(dsimp:=false)(disch:=omega) only [go_sem, Φa, hP, h3_15, h3_0, h3_2, h3_3, h3_4, h3_5]
          · rfl
          · refine ⟨by omega, by omega, fun j hj => ?_⟩
            rcases Nat.lt_succ_iff_lt_or_eq.1 hj with h | rfl
            · exact him j h
            · exact hc22
        · (try dsimp only); omega
    · clear hX7 hY7 X7 Y7
      refine SX.exit ?_
      try simp only [andThen_normal, andThen_ret, andThen_exit, inBlk_normal, inBlk_ret, inBlk_exit, Nat.reduceEqDiff, if_true, if_false, ↓reduceIte]
      refine hK2 _ _ ?_
      try clear hK2 K2
      refine SX.seq_k fun K12 hK12 => ?_
      refine SX.region_d [some 7] rfl (fun ops hops => ?_)
      unfold Dsts at hops
      simp (maxSteps:=1000000)(dsimp:=false)(disch:=omega) only [go_sem, Φa, hP, h3_15, h3_0, h3_2, h3_3, h3_4, h3_5, hops]
      refine hK12 _ _ ?_
      try clear hK12 K12
      refine SX.seq_k fun K13 hK13 => ?_
      refine SX.seq_k fun K14 hK14 => ?_
      refine SX.region_d [some 25] rfl (fun ops hops => ?_)
      unfold Dsts at hops
      simp (maxSteps:=1000000)(dsimp:=false)(disch:=omega) only [go_sem, Φa, hP, h3_15, h3_0, h3_2, h3_3, h3_4, h3_5, hops]
      refine hK14 _ _ ?_
      try clear hK14 K14
      refine SX.block ?_
      obtain rfl : i = 4 := by omega
      refine SX.live [0, 2, 3, 4, 5, 7, 25] (fun T4 hT4 => ?_)
      simp only [forall_mem_cons', forall_mem_nil', go_sem, Φa, hP, h3_15, h3_0, h3_2, h3_3, h3_4, h3_5] at hT4
      obtain ⟨h4_0, h4_2, h4_3, h4_4, h4_5, h4_7, h4_25⟩ := hT4
      clear h3_15 h3_0 h3_2 h3_3 h3_4 h3_5 T3
      refine SX.loop_k (fun (ss : (Nat)) T L' => (fun (i : Nat) => T 7 = .int .i64 (nP xs i) ∧ T 25 = .int .i64 (i : Int) ∧ T 0 = T4 0 ∧ T 2 = T4 2 ∧ T 3 = T4 3 ∧ T 4 = T4 4 ∧ T 5 = T4 5 ∧ L' = rdS rb (.slice vA xs.length vC) (((4 + i : Nat) : Int)) 0 :: some (b4, .cells [.int .i64 0].toArray 3 (0, 0)) :: some (b3, .cells [.int .i64 0].toArray 25 (0, 0)) :: some (b2, .cells [.slice none 0 0].toArray 23 (0, 0)) :: none :: L ∧ (i ≤ 4 ∧ 4 + i ≤ xs.length ∧ ∀ j, j < 4 → xs.getD j 0 = mgc.getD j 0)) (ss)) (fun (ss : (Nat)) => (fun (i : Nat) => 4 - i) (ss)) 0 ?_ ?_
      · try dsimp only
        refine ⟨?_, ?_, ?_, ?_, ?_, ?_, ?_, ?_, ?_⟩
        · first | exact h4_7 | (rw [h4_7]; rfl) | (rw [h4_7]; simp; done)
        · first | exact h4_25 | (rw [h4_25]; rfl) | (rw [h4_25]; simp; done)
        · rfl
        · rfl
        · rfl
        · rfl
        · rfl
        · rfl
        · exact ⟨Nat.zero_le _, by omega, fun j hj => him j (by omega)⟩
      · intro i T5 L5 hI K15 hK15
        try dsimp only at hI hK15
        simp only [h4_0, h4_2, h4_3, h4_4, h4_5] at hI hK15
        obtain ⟨h5_7, h5_25, h5_0, h5_2, h5_3, h5_4, h5_5, hL5, ⟨hi2, hil2, him2⟩⟩ := hI
        replace hL5 := hL5.symm
        subst hL5
        clear h4_0 h4_2 h4_3 h4_4 h4_5 h4_7 h4_25 T4
        refine SX.seq_k fun K16 hK16 => ?_
        refine SX.region_d [some 26] rfl (fun ops hops => ?_)
        unfold Dsts at hops
        simp (maxSteps:=1000000)(dsimp:=false)(disch:=omega) only [go_sem, Φa, hP, h5_7, h5_25, h5_0, h5_2, h5_3, h5_4, h5_5, hops]
        repeat' ((first | refine And.intro (by omega) ?_ | fail); try (with_reducible refine stI ?_); try simp (maxSteps:=1000000)(dsimp:=false)(disch:=omega) only [go_sem, Φa, hP, h5_7, h5_25, h5_0, h5_2, h5_3, h5_4, h5_5, hops])
        refine hK16 _ _ ?_
        try clear hK16 K16
        refine SX.seq_k fun K17 hK17 => ?_
        refine SX.cond_k fun X18 Y18 hX18 hY18 => ?_
        simp (maxSteps:=1000000)(dsimp:=false)(disch:=omega) only [go_sem, Φa, hP, h5_7, h5_25, h5_0, h5_2, h5_3, h5_4, h5_5, condVC]
        refine ⟨fun hc26 => hX18 ?_, fun hc26 => hY18 ?_⟩
        · clear hX18 hY18 X18 Y18
          refine SX.skip ?_
          try simp only [andThen_normal, andThen_ret, andThen_exit, inBlk_normal, inBlk_ret, inBlk_exit, Nat.reduceEqDiff, if_true, if_false, ↓reduceIte]
          refine hK17 _ _ ?_
          try clear hK17 K17
          refine SX.seq_k fun K19 hK19 => ?_
          refine SX.block ?_
          refine SX.seq_k fun K20 hK20 => ?_
          refine SX.region_d [some 27, some 8] rfl (fun ops hops => ?_)
          unfold Dsts at hops
          simp (maxSteps:=1000000)(dsimp:=false)(disch:=omega) only [go_sem, Φa, hP, h5_7, h5_25, h5_0, h5_2, h5_3, h5_4, h5_5, hops]
          refine hK20 _ _ ?_
          try clear hK20 K20
          refine SX.region_xd [some 28, some 29, some 30, some 31, some 32, some 33, some 34, some 35, some 7] rfl (fun ops hops => ?_)
          unfold Dsts at hops
          refine RX.cut_k 2 fun K21 hK21 => ?_
          simp (maxSteps:=1000000)(dsimp:=false)(disch:=omega) only [go_sem, Φa, hP, h5_7, h5_25, h5_0, h5_2, h5_3, h5_4, h5_5, hops]
          refine hK21 _ _ ?_
          try clear hK21 K21
          refine RX.pcall rfl rfl rfl (hP ▸ T.callable_38) (by first | rfl | (try simp (maxSteps:=1000000)(dsimp:=false)(disch:=omega) only [go_sem, Φa, hP, h5_7, h5_25, h5_0, h5_2, h5_3, h5_4, h5_5]) | skip) (byte_spec (i := 0) (rb := rb) (bv := .slice vA xs.length vC) (xs := xs) (at_ := 4 + i) (fr := 0) hP rfl (sl5 hb _ _) (by omega) (by omega)) ?_ ?_
          · intro ch_ L_ hpan
            try simp only [andThen_normal, andThen_ret, andThen_exit, inBlk_normal, inBlk_ret, inBlk_exit, Nat.reduceEqDiff, if_true, if_false, ↓reduceIte, andThen_panic, inBlk_panic, noGo_panic, retP_panic, retD_panic]
            obtain ⟨he, rfl, rfl⟩ := hpan
            exact caught hP (by first | rfl | simp) (by first | assumption | simp [upd_app, *]) (by first | assumption | simp [upd_app, *]) (by first | assumption | simp [upd_app, *]) (head_short (by omega))
          intro v_ L_ hret
          obtain ⟨hlt, rfl, rfl⟩ := hret
          refine putVC_mk (by decide) ?_
          refine RX.done ?_
          simp (maxSteps:=1000000)(dsimp:=false)(disch:=omega) only [go_sem, Φa, hP, h5_7, h5_25, h5_0, h5_2, h5_3, h5_4, h5_5, hops]
          repeat' ((first | refine And.intro (by omega) ?_ | fail); try (with_reducible refine stI ?_); try simp (maxSteps:=1000000)(dsimp:=false)(disch:=omega) only [go_sem, Φa, hP, h5_7, h5_25, h5_0, h5_2, h5_3, h5_4, h5_5, hops])
          refine hK19 _ _ ?_
          try clear hK19 K19
          refine SX.live [0, 2, 3, 4, 5, 7, 25] (fun T6 hT6 => ?_)
          simp only [forall_mem_cons', forall_mem_nil', go_sem, Φa, hP, h5_7, h5_25, h5_0, h5_2, h5_3, h5_4, h5_5] at hT6
          obtain ⟨h6_0, h6_2, h6_3, h6_4, h6_5, h6_7, h6_25⟩ := hT6
          clear h5_7 h5_25 h5_0 h5_2 h5_3 h5_4 h5_5 T5
          refine SX.region_d [some 36, some 25] rfl (fun ops hops => ?_)
          unfold Dsts at hops
          simp (maxSteps:=1000000)(dsimp:=false)(disch:=omega) only [go_sem, Φa, hP, h6_0, h6_2, h6_3, h6_4, h6_5, h6_7, h6_25, hops]
          repeat' ((first | refine And.intro (by omega) ?_ | fail); try (with_reducible refine stI ?_); try simp (maxSteps:=1000000)(dsimp:=false)(disch:=omega) only [go_sem, Φa, hP, h6_0, h6_2, h6_3, h6_4, h6_5, h6_7, h6_25, hops])
          refine hK15 (i + 1) _ (rdS rb (.slice vA xs.length vC) (((4 + ((i + 1)) : Nat) : Int)) 0 :: some (b4, .cells [.int .i64 0].toArray 3 (0, 0)) :: some (b3, .cells [.int .i64 0].toArray 25 (0, 0)) :: some (b2, .cells [.slice none 0 0].toArray 23 (0, 0)) :: none :: L) _ (by first | exact Less.refl _ | exact Less.drop _ _ | exact Less.drops (Less.drop _ _) | exact Less.drops (Less.drops (Less.drop _ _)) | exact Less.drops (Less.drops (Less.drops (Less.drop _ _))) | exact Less.drops (Less.drops (Less.drops (Less.drops (Less.drop _ _))))) ?_ ?_
          · try dsimp only
            refine ⟨?_, ?_, ?_, ?_, ?_, ?_, ?_, ?_, ?_⟩
            · simp (maxSteps:=1000000)(dsimp:=false)(disch:=omega) only [go_sem, Φa, hP, h6_0, h6_2, h6_3, h6_4, h6_5, h6_7, h6_25]
              first | done | rfl | skip
            · simp (maxSteps:=1000000)(dsimp:=false)(disch:=omega) only [go_sem, Φa, hP, h6_0, h6_2, h6_3, h6_4, h6_5, h6_7, h6_25]
              first | done | rfl | skip
            · simp (maxSteps:=1000000)(dsimp:=false)(disch:=omega) only [go_sem, Φa, hP, h6_0, h6_2, h6_3, h6_4, h6_5, h6_7, h6_25]
            · simp (maxSteps:=1000000)(dsimp:=false)(disch:=omega) only [go_sem, Φa, hP, h6_0, h6_2, h6_3, h6_4, h6_5, h6_7, h6_25]
            · simp (maxSteps:=1000000)(dsimp:=false)(disch:=omega) only [go_sem, Φa, hP, h6_0, h6_2, h6_3, h6_4, h6_5, h6_7, h6_25]
            · simp (maxSteps:=1000000)(dsimp:=false)(disch:=omega) only [go_sem, Φa, hP, h6_0, h6_2, h6_3, h6_4, h6_5, h6_7, h6_25]
            · simp (maxSteps:=1000000)(dsimp:=false)(disch:=omega) only [go_sem, Φa, hP, h6_0, h6_2, h6_3, h6_4, h6_5, h6_7, h6_25]
            · rfl
            · exact ⟨by omega, by omega, him2⟩
          · (try dsimp only); omega
        · clear hX18 hY18 X18 Y18
          refine SX.exit ?_
          try simp only [andThen_normal, andThen_ret, andThen_exit, inBlk_normal, inBlk_ret, inBlk_exit, Nat.reduceEqDiff, if_true, if_false, ↓reduceIte]
          refine hK13 _ _ ?_
          try clear hK13 K13
          refine SX.seq_k fun K22 hK22 => ?_
          refine SX.seq_k fun K23 hK23 => ?_
          obtain rfl : i = 4 := by omega
          have hhd := head_yes (by omega) him2
          refine SX.region_d [some 37, some 38] rfl (fun ops hops => ?_)
          unfold Dsts at hops
          simp (maxSteps:=1000000)(dsimp:=false)(disch:=omega) only [go_sem, Φa, hP, h5_7, h5_25, h5_0, h5_2, h5_3, h5_4, h5_5, hops]
          repeat' ((first | refine And.intro (by omega) ?_ | fail); try (with_reducible refine stI ?_); try simp (maxSteps:=1000000)(dsimp:=false)(disch:=omega) only [go_sem, Φa, hP, h5_7, h5_25, h5_0, h5_2, h5_3, h5_4, h5_5, hops])
          refine hK23 _ _ ?_
          try clear hK23 K23
          refine SX.cond_k fun X24 Y24 hX24 hY24 => ?_
          simp (maxSteps:=1000000)(dsimp:=false)(disch:=omega) only [go_sem, Φa, hP, h5_7, h5_25, h5_0, h5_2, h5_3, h5_4, h5_5, condVC]
          refine ⟨fun hc38 => hX24 ?_, fun hc38 => hY24 ?_⟩
          · clear hX24 hY24 X24 Y24
            refine SX.region_xd [some 39, none] rfl (fun ops hops => ?_)
            unfold Dsts at hops
            refine RX.raise rfl rfl rfl rfl rfl (by rw [hP]; kernel_rfl) (by decide) ?_
            try simp (maxSteps:=1000000)(dsimp:=false)(disch:=omega) only [go_sem,Φa,hP,h5_7,h5_25,h5_0,h5_2,h5_3,h5_4,h5_5,andThen_normal,andThen_ret,andThen_exit,inBlk_normal,inBlk_ret,inBlk_exit,Nat.reduceEqDiff,if_true,if_false,↓reduceIte,andThen_panic,inBlk_panic,noGo_panic,retP_panic,retD_panic]
            try simp only [andThen_normal, andThen_ret, andThen_exit, inBlk_normal, inBlk_ret, inBlk_exit, Nat.reduceEqDiff, if_true, if_false, ↓reduceIte, andThen_panic, inBlk_panic, noGo_panic, retP_panic, retD_panic]
            exact caught hP (by first | rfl | simp) (by first | assumption | simp [upd_app, *]) (by first | assumption | simp [upd_app, *]) (by first | assumption | simp [upd_app, *]) (unp_big hhd (by simpa using hc38))
          · clear hX24 hY24 X24 Y24
            refine SX.skip ?_
            try simp only [andThen_normal, andThen_ret, andThen_exit, inBlk_normal, inBlk_ret, inBlk_exit, Nat.reduceEqDiff, if_true, if_false, ↓reduceIte]
            refine hK22 _ _ ?_
            try clear hK22 K22
            refine SX.seq_k fun K25 hK25 => ?_
            refine SX.region_d [some 9] rfl (fun ops hops => ?_)
            unfold Dsts at hops
            simp (maxSteps:=1000000)(dsimp:=false)(disch:=omega) only [go_sem, Φa, hP, h5_7, h5_25, h5_0, h5_2, h5_3, h5_4, h5_5, hops]
            refine hK25 _ _ ?_
            try clear hK25 K25
            refine SX.seq_k fun K26 hK26 => ?_
            refine SX.seq_k fun K27 hK27 => ?_
            refine SX.region_d [some 40, some 41] rfl (fun ops hops => ?_)
            unfold Dsts at hops
            simp (maxSteps:=1000000)(dsimp:=false)(disch:=omega) only [go_sem, Φa, hP, h5_7, h5_25, h5_0, h5_2, h5_3, h5_4, h5_5, hops]
            refine hK27 _ _ ?_
            try clear hK27 K27
            refine SX.block ?_
            refine SX.live [0, 2, 3, 4, 5, 9, 40, 41] (fun T7 hT7 => ?_)
            simp only [forall_mem_cons', forall_mem_nil', go_sem, Φa, hP, h5_7, h5_25, h5_0, h5_2, h5_3, h5_4, h5_5] at hT7
            obtain ⟨h7_0, h7_2, h7_3, h7_4, h7_5, h7_9, h7_40, h7_41⟩ := hT7
            clear h5_7 h5_25 h5_0 h5_2 h5_3 h5_4 h5_5 T5
            refine SX.loop_k (fun (ss : (Nat) × (Nat) × (Nat) × (Int) × (List Rc) × (Value) × (Slot)) T L' => (fun (k : Nat) (at_ : Nat) (fr : Nat) (next : Int) (l : List Rc) (vo : Value) (so : Slot) => T 9 = .int .u16 next ∧ T 41 = .int .i64 (k : Int) ∧ T 0 = T7 0 ∧ T 2 = T7 2 ∧ T 3 = T7 3 ∧ T 4 = T7 4 ∧ T 5 = T7 5 ∧ T 40 = T7 40 ∧ L' = rdS rb (.slice vA xs.length vC) (at_ : Int) ((fr : Nat) : Int) :: some (b4, .cells [.int .i64 0].toArray 3 (0, 0)) :: some (b3, .cells [.int .i64 0].toArray 25 (0, 0)) :: some (b2, .cells [vo].toArray 23 (0, 0)) :: so :: L ∧ (k ≤ (nP xs 4).toNat ∧ at_ ≤ xs.length ∧ recsP xs (nP xs 4).toNat 8 0 = (recsP xs ((nP xs 4).toNat - k) at_ next).pre l ∧ l.length = k ∧ RowL Rc.cells 46 8 vo l so)) (ss.1) (ss.2.1) (ss.2.2.1) (ss.2.2.2.1) (ss.2.2.2.2.1) (ss.2.2.2.2.2.1) (ss.2.2.2.2.2.2)) (fun (ss : (Nat) × (Nat) × (Nat) × (Int) × (List Rc) × (Value) × (Slot)) => (fun (k : Nat) (at_ : Nat) (fr : Nat) (next : Int) (l : List Rc) (vo : Value) (so : Slot) => (nP xs 4).toNat - k) (ss.1) (ss.2.1) (ss.2.2.1) (ss.2.2.2.1) (ss.2.2.2.2.1) (ss.2.2.2.2.2.1) (ss.2.2.2.2.2.2)) (0, 8, 0, 0, [], .slice none 0 0, none) ?_ ?_
            · try dsimp only
              refine ⟨?_, ?_, ?_, ?_, ?_, ?_, ?_, ?_, ?_, ?_⟩
              · first | exact h7_9 | (rw [h7_9]; rfl) | (rw [h7_9]; simp; done)
              · first | exact h7_41 | (rw [h7_41]; rfl) | (rw [h7_41]; simp; done)
              · rfl
              · rfl
              · rfl
              · rfl
              · rfl
              · rfl
              · rfl
              · exact ⟨Nat.zero_le _, by omega, Rd.pre_nil _, rfl, RowL.nil _ _ _⟩
            · intro ss T8 L8 hI K28 hK28
              obtain ⟨k, at_, fr, next, l, vo, so⟩ := ss
              try dsimp only at hI hK28
              simp only [h7_0, h7_2, h7_3, h7_4, h7_5, h7_40] at hI hK28
              obtain ⟨h8_9, h8_41, h8_0, h8_2, h8_3, h8_4, h8_5, h8_40, hL8, ⟨hk, hat, hrs, hll, hrow⟩⟩ := hI
              replace hL8 := hL8.symm
              subst hL8
              clear h7_0 h7_2 h7_3 h7_4 h7_5 h7_9 h7_40 h7_41 T7
              refine SX.seq_k fun K29 hK29 => ?_
              refine SX.region_d [some 42] rfl (fun ops hops => ?_)
              unfold Dsts at hops
              simp (maxSteps:=1000000)(dsimp:=false)(disch:=omega) only [go_sem, Φa, hP, h8_9, h8_41, h8_0, h8_2, h8_3, h8_4, h8_5, h8_40, hops]
              repeat' ((first | refine And.intro (by omega) ?_ | fail); try (with_reducible refine stI ?_); try simp (maxSteps:=1000000)(dsimp:=false)(disch:=omega) only [go_sem, Φa, hP, h8_9, h8_41, h8_0, h8_2, h8_3, h8_4, h8_5, h8_40, hops])
              refine hK29 _ _ ?_
              try clear hK29 K29
              refine SX.seq_k fun K30 hK30 => ?_
              refine SX.cond_k fun X31 Y31 hX31 hY31 => ?_
              simp (maxSteps:=1000000)(dsimp:=false)(disch:=omega) only [go_sem, Φa, hP, h8_9, h8_41, h8_0, h8_2, h8_3, h8_4, h8_5, h8_40, condVC]
              refine ⟨fun hc42 => hX31 ?_, fun hc42 => hY31 ?_⟩
              · clear hX31 hY31 X31 Y31
                refine SX.skip ?_
                try simp only [andThen_normal, andThen_ret, andThen_exit, inBlk_normal, inBlk_ret, inBlk_exit, Nat.reduceEqDiff, if_true, if_false, ↓reduceIte]
                refine hK30 _ _ ?_
                try clear hK30 K30
                refine SX.seq_k fun K32 hK32 => ?_
                refine SX.block ?_
                refine SX.seq_k fun K33 hK33 => ?_
                refine SX.region_xd [some 43, some 44, some 45, some 10, none] rfl (fun ops hops => ?_)
                unfold Dsts at hops
                have hsuc : (nP xs 4).toNat - k = ((nP xs 4).toNat - (k + 1)) + 1 := by omega
                refine RX.cut_k 2 fun K34 hK34 => ?_
                simp (maxSteps:=1000000)(dsimp:=false)(disch:=omega) only [go_sem, Φa, hP, h8_9, h8_41, h8_0, h8_2, h8_3, h8_4, h8_5, h8_40, hops]
                refine hK34 _ _ ?_
                try clear hK34 K34
                refine RX.pcall rfl rfl rfl (hP ▸ T.callable_39) (by first | rfl | (try simp (maxSteps:=1000000)(dsimp:=false)(disch:=omega) only [go_sem, Φa, hP, h8_9, h8_41, h8_0, h8_2, h8_3, h8_4, h8_5, h8_40]) | skip) (record_spec (i := 0) (rb := rb) (bv := .slice vA xs.length vC) (xs := xs) (at_ := at_) (fr := fr) (next := next) hP rfl (sl5 hb _ _) (by omega) (by omega) hby) ?_ ?_
                · intro ch_ L_ hpan
                  try simp only [andThen_normal, andThen_ret, andThen_exit, inBlk_normal, inBlk_ret, inBlk_exit, Nat.reduceEqDiff, if_true, if_false, ↓reduceIte, andThen_panic, inBlk_panic, noGo_panic, retP_panic, retD_panic]
                  obtain ⟨hrn, rfl, a, f, rfl⟩ := hpan
                  exact caught hP (by first | rfl | simp) (by first | assumption | simp [upd_app, *]) (by first | assumption | simp [upd_app, *]) (by first | assumption | simp [upd_app, *]) (unp_bad hhd (by omega) (by rw [hrs, hsuc, recs_fail hrn]))
                intro v_ L_ hret
                obtain ⟨x, kk, hrx, rfl, rfl⟩ := hret
                refine putVC_mk (by decide) ?_
                refine RX.done ?_
                simp (maxSteps:=1000000)(dsimp:=false)(disch:=omega) only [go_sem, Φa, hP, h8_9, h8_41, h8_0, h8_2, h8_3, h8_4, h8_5, h8_40, hops]
                intro b10
                try with_reducible refine stI ?_
                try simp (maxSteps:=1000000)(dsimp:=false)(disch:=omega) only [go_sem, Φa, hP, h8_9, h8_41, h8_0, h8_2, h8_3, h8_4, h8_5, h8_40, hops]
                refine ⟨rfl, rfl, 0, _, _, _, rfl, Nat.le_refl 8, .inr (Nat.zero_le 0), ?_⟩
                try with_reducible refine stI ?_
                try simp (maxSteps:=1000000)(dsimp:=false)(disch:=omega) only [go_sem, Φa, hP, h8_9, h8_41, h8_0, h8_2, h8_3, h8_4, h8_5, h8_40, hops]
                rw [put_rc rfl]
                try with_reducible refine stI ?_
                try simp (maxSteps:=1000000)(dsimp:=false)(disch:=omega) only [go_sem, Φa, hP, h8_9, h8_41, h8_0, h8_2, h8_3, h8_4, h8_5, h8_40, hops]
                refine hK33 _ _ ?_
                try clear hK33 K33
                refine SX.seq_k fun K35 hK35 => ?_
                refine SX.region_d [some 46, some 47, some 48, some 9] rfl (fun ops hops => ?_)
                unfold Dsts at hops
                simp (maxSteps:=1000000)(dsimp:=false)(disch:=omega) only [go_sem, Φa, hP, h8_9, h8_41, h8_0, h8_2, h8_3, h8_4, h8_5, h8_40, hops]
                refine ⟨_, Cell.at 0 rfl rfl, ?_⟩
                try with_reducible refine stI ?_
                try simp (maxSteps:=1000000)(dsimp:=false)(disch:=omega) only [go_sem, Φa, hP, h8_9, h8_41, h8_0, h8_2, h8_3, h8_4, h8_5, h8_40, hops]
                refine SCall.mono (after_spec hP) ?_
                rintro v_ L_ ⟨hv_, hL_⟩
                rw [hv_, hL_]
                clear hv_ hL_ v_ L_
                try with_reducible refine stI ?_
                try simp (maxSteps:=1000000)(dsimp:=false)(disch:=omega) only [go_sem, Φa, hP, h8_9, h8_41, h8_0, h8_2, h8_3, h8_4, h8_5, h8_40, hops]
                refine hK35 _ _ ?_
                try clear hK35 K35
                refine SX.live [0, 2, 3, 4, 5, 9, 10, 40, 41] (fun T9 hT9 => ?_)
                simp only [forall_mem_cons', forall_mem_nil', go_sem, Φa, hP, h8_9, h8_41, h8_0, h8_2, h8_3, h8_4, h8_5, h8_40] at hT9
                obtain ⟨h9_0, h9_2, h9_3, h9_4, h9_5, h9_9, h9_10, h9_40, h9_41⟩ := hT9
                clear h8_9 h8_41 h8_0 h8_2 h8_3 h8_4 h8_5 h8_40 T8
                obtain ⟨oA, oC, rfl, _, _⟩ := Row.form hrow
                refine SX.region_d [some 49, some 50, some 51, some 52, none] rfl (fun ops hops => ?_)
                unfold Dsts at hops
                simp (maxSteps:=1000000)(dsimp:=false)(disch:=omega) only [go_sem, Φa, hP, h9_0, h9_2, h9_3, h9_4, h9_5, h9_9, h9_10, h9_40, h9_41, hops]
                refine ⟨_, Cell.at 4 rfl rfl, ?_⟩
                try with_reducible refine stI ?_
                try simp (maxSteps:=1000000)(dsimp:=false)(disch:=omega) only [go_sem, Φa, hP, h9_0, h9_2, h9_3, h9_4, h9_5, h9_9, h9_10, h9_40, h9_41, hops]
                refine ⟨_, Cell.at 0 rfl (show (Rc.cells _)[0]? = _ from rfl), _, Cell.at 0 rfl (show (Rc.cells _)[1]? = _ from rfl), _, Cell.at 0 rfl (show (Rc.cells _)[2]? = _ from rfl), _, Cell.at 0 rfl (show (Rc.cells _)[3]? = _ from rfl), _, Cell.at 0 rfl (show (Rc.cells _)[4]? = _ from rfl), _, Cell.at 0 rfl (show (Rc.cells _)[5]? = _ from rfl), _, Cell.at 0 rfl (show (Rc.cells _)[6]? = _ from rfl), _, Cell.at 0 rfl (show (Rc.cells _)[7]? = _ from rfl), ?_⟩
                try with_reducible refine stI ?_
                try simp (maxSteps:=1000000)(dsimp:=false)(disch:=omega) only [go_sem, Φa, hP, h9_0, h9_2, h9_3, h9_4, h9_5, h9_9, h9_10, h9_40, h9_41, hops]
                intro g22
                try with_reducible refine stI ?_
                try simp (maxSteps:=1000000)(dsimp:=false)(disch:=omega) only [go_sem, Φa, hP, h9_0, h9_2, h9_3, h9_4, h9_5, h9_9, h9_10, h9_40, h9_41, hops]
                refine YAppend.rowL (f := Rc.cells) (x := x) (i := 5) (z := [.int .u8 0, .int .u16 0, .int .u8 0, .bool false, .bool false, .int .u8 0, .bool false, .int .u8 0]) (hP ▸ T.elS_23) (hP ▸ T.zr_46) rfl rfl rfl rfl hrow (by omega) (by decide) ?_
                intro v' s' hrow'
                obtain ⟨nA, nC, rfl, _, _⟩ := Row.form hrow'
                try with_reducible refine stI ?_
                try simp (maxSteps:=1000000)(dsimp:=false)(disch:=omega) only [go_sem, Φa, hP, h9_0, h9_2, h9_3, h9_4, h9_5, h9_9, h9_10, h9_40, h9_41, hops]
                refine ⟨5, _, _, _, rfl, (by show 1 ≤ 1; decide), .inr (by decide), ?_⟩
                try with_reducible refine stI ?_
                try simp (maxSteps:=1000000)(dsimp:=false)(disch:=omega) only [go_sem, Φa, hP, h9_0, h9_2, h9_3, h9_4, h9_5, h9_9, h9_10, h9_40, h9_41, hops]
                refine hK32 _ _ ?_
                try clear hK32 K32
                refine SX.region_d [some 53, some 41] rfl (fun ops hops => ?_)
                unfold Dsts at hops
                simp (maxSteps:=1000000)(dsimp:=false)(disch:=omega) only [go_sem, Φa, hP, h9_0, h9_2, h9_3, h9_4, h9_5, h9_9, h9_10, h9_40, h9_41, hops]
                repeat' ((first | refine And.intro (by omega) ?_ | fail); try (with_reducible refine stI ?_); try simp (maxSteps:=1000000)(dsimp:=false)(disch:=omega) only [go_sem, Φa, hP, h9_0, h9_2, h9_3, h9_4, h9_5, h9_9, h9_10, h9_40, h9_41, hops])
                refine hK28 (k + 1, at_ + kk, at_, IntKind.u16.wrap (x.ad + 1), l ++ [x], .slice nA (l ++ [x]).length nC, s') _ (rdS rb (.slice vA xs.length vC) ((at_ + kk) : Int) ((at_ : Nat) : Int) :: some (b4, .cells [.int .i64 0].toArray 3 (0, 0)) :: some (b3, .cells [.int .i64 0].toArray 25 (0, 0)) :: some (b2, .cells [(.slice nA (l ++ [x]).length nC)].toArray 23 (0, 0)) :: s' :: L) _ (by first | exact Less.refl _ | exact Less.drop _ _ | exact Less.drops (Less.drop _ _) | exact Less.drops (Less.drops (Less.drop _ _)) | exact Less.drops (Less.drops (Less.drops (Less.drop _ _))) | exact Less.drops (Less.drops (Less.drops (Less.drops (Less.drop _ _))))) ?_ ?_
                · try dsimp only
                  refine ⟨?_, ?_, ?_, ?_, ?_, ?_, ?_, ?_, ?_, ?_⟩
                  · simp (maxSteps:=1000000)(dsimp:=false)(disch:=omega) only [go_sem, Φa, hP, h9_0, h9_2, h9_3, h9_4, h9_5, h9_9, h9_10, h9_40, h9_41]
                    first | done | rfl | skip
                  · simp (maxSteps:=1000000)(dsimp:=false)(disch:=omega) only [go_sem, Φa, hP, h9_0, h9_2, h9_3, h9_4, h9_5, h9_9, h9_10, h9_40, h9_41]
                    first | done | rfl | skip
                  · simp (maxSteps:=1000000)(dsimp:=false)(disch:=omega) only [go_sem, Φa, hP, h9_0, h9_2, h9_3, h9_4, h9_5, h9_9, h9_10, h9_40, h9_41]
                  · simp (maxSteps:=1000000)(dsimp:=false)(disch:=omega) only [go_sem, Φa, hP, h9_0, h9_2, h9_3, h9_4, h9_5, h9_9, h9_10, h9_40, h9_41]
                  · simp (maxSteps:=1000000)(dsimp:=false)(disch:=omega) only [go_sem, Φa, hP, h9_0, h9_2, h9_3, h9_4, h9_5, h9_9, h9_10, h9_40, h9_41]
                  · simp (maxSteps:=1000000)(dsimp:=false)(disch:=omega) only [go_sem, Φa, hP, h9_0, h9_2, h9_3, h9_4, h9_5, h9_9, h9_10, h9_40, h9_41]
                  · simp (maxSteps:=1000000)(dsimp:=false)(disch:=omega) only [go_sem, Φa, hP, h9_0, h9_2, h9_3, h9_4, h9_5, h9_9, h9_10, h9_40, h9_41]
                  · simp (maxSteps:=1000000)(dsimp:=false)(disch:=omega) only [go_sem, Φa, hP, h9_0, h9_2, h9_3, h9_4, h9_5, h9_9, h9_10, h9_40, h9_41]
                  · rfl
                  · refine ⟨by omega, (recP_pos hrx).2, ?_, by rw [List.length_append, hll]; rfl, hrow'⟩
                    rw [hrs, show (nP xs 4).toNat - k = ((nP xs 4).toNat - (k + 1)) + 1 by omega, recs_step hrx]
                · (try dsimp only); omega
              · clear hX31 hY31 X31 Y31
                refine SX.exit ?_
                try simp only [andThen_normal, andThen_ret, andThen_exit, inBlk_normal, inBlk_ret, inBlk_exit, Nat.reduceEqDiff, if_true, if_false, ↓reduceIte]
                refine hK26 _ _ ?_
                try clear hK26 K26
                refine SX.seq_k fun K36 hK36 => ?_
                refine SX.seq_k fun K37 hK37 => ?_
                obtain ⟨oA, oC, rfl, _, _⟩ := Row.form hrow
                have hkn : k = (nP xs 4).toNat := by omega
                have hfin : recsP xs (nP xs 4).toNat 8 0 = .good l at_ := by
                  rw [hrs, hkn, Nat.sub_self]; show Rd.good (l ++ []) at_ = _; rw [List.append_nil]
                refine SX.region_d [some 54, some 55, some 56, some 57, some 58, some 59, some 60] rfl (fun ops hops => ?_)
                unfold Dsts at hops
                simp (maxSteps:=1000000)(dsimp:=false)(disch:=omega) only [go_sem, Φa, hP, h8_9, h8_41, h8_0, h8_2, h8_3, h8_4, h8_5, h8_40, hops]
                refine ⟨_, Cell.at 0 rfl rfl, ?_⟩
                try with_reducible refine stI ?_
                try simp (maxSteps:=1000000)(dsimp:=false)(disch:=omega) only [go_sem, Φa, hP, h8_9, h8_41, h8_0, h8_2, h8_3, h8_4, h8_5, h8_40, hops]
                refine hK37 _ _ ?_
                try clear hK37 K37
                refine SX.cond_k fun X38 Y38 hX38 hY38 => ?_
                simp (maxSteps:=1000000)(dsimp:=false)(disch:=omega) only [go_sem, Φa, hP, h8_9, h8_41, h8_0, h8_2, h8_3, h8_4, h8_5, h8_40, condVC]
                refine ⟨fun hc60 => hX38 ?_, fun hc60 => hY38 ?_⟩
                · clear hX38 hY38 X38 Y38
                  refine SX.region_xd [some 61, some 62, some 63, some 64, some 65, none] rfl (fun ops hops => ?_)
                  unfold Dsts at hops
                  refine RX.cut_k 4 fun K39 hK39 => ?_
                  simp (maxSteps:=1000000)(dsimp:=false)(disch:=omega) only [go_sem, Φa, hP, h8_9, h8_41, h8_0, h8_2, h8_3, h8_4, h8_5, h8_40, hops]
                  refine ⟨_, Cell.at 0 rfl rfl, ?_⟩
                  try with_reducible refine stI ?_
                  try simp (maxSteps:=1000000)(dsimp:=false)(disch:=omega) only [go_sem, Φa, hP, h8_9, h8_41, h8_0, h8_2, h8_3, h8_4, h8_5, h8_40, hops]
                  refine hK39 _ _ ?_
                  try clear hK39 K39
                  refine RX.raise rfl rfl rfl rfl rfl (by rw [hP]; kernel_rfl) (by decide) ?_
                  try simp (maxSteps:=1000000)(dsimp:=false)(disch:=omega) only [go_sem,Φa,hP,h8_9,h8_41,h8_0,h8_2,h8_3,h8_4,h8_5,h8_40,andThen_normal,andThen_ret,andThen_exit,inBlk_normal,inBlk_ret,inBlk_exit,Nat.reduceEqDiff,if_true,if_false,↓reduceIte,andThen_panic,inBlk_panic,noGo_panic,retP_panic,retD_panic]
                  try simp only [andThen_normal, andThen_ret, andThen_exit, inBlk_normal, inBlk_ret, inBlk_exit, Nat.reduceEqDiff, if_true, if_false, ↓reduceIte, andThen_panic, inBlk_panic, noGo_panic, retP_panic, retD_panic]
                  exact caught hP (by first | rfl | simp) (by first | assumption | simp [upd_app, *]) (by first | assumption | simp [upd_app, *]) (by first | assumption | simp [upd_app, *]) (unp_more hhd (by omega) hfin (by omega))
                · clear hX38 hY38 X38 Y38
                  refine SX.skip ?_
                  try simp only [andThen_normal, andThen_ret, andThen_exit, inBlk_normal, inBlk_ret, inBlk_exit, Nat.reduceEqDiff, if_true, if_false, ↓reduceIte]
                  refine hK36 _ _ ?_
                  try clear hK36 K36
                  refine SX.seq_k fun K40 hK40 => ?_
                  refine SX.region_d [some 66, none, none, none] rfl (fun ops hops => ?_)
                  unfold Dsts at hops
                  simp (maxSteps:=1000000)(dsimp:=false)(disch:=omega) only [go_sem, Φa, hP, h8_9, h8_41, h8_0, h8_2, h8_3, h8_4, h8_5, h8_40, hops]
                  refine ⟨_, Cell.at 3 rfl rfl, ?_⟩
                  try with_reducible refine stI ?_
                  try simp (maxSteps:=1000000)(dsimp:=false)(disch:=omega) only [go_sem, Φa, hP, h8_9, h8_41, h8_0, h8_2, h8_3, h8_4, h8_5, h8_40, hops]
                  refine ⟨3, _, _, _, rfl, (by show 1 ≤ 1; decide), .inr (by decide), ?_⟩
                  try with_reducible refine stI ?_
                  try simp (maxSteps:=1000000)(dsimp:=false)(disch:=omega) only [go_sem, Φa, hP, h8_9, h8_41, h8_0, h8_2, h8_3, h8_4, h8_5, h8_40, hops]
                  refine ⟨2, _, _, _, rfl, (by show 1 ≤ 1; decide), .inr (by decide), ?_⟩
                  try with_reducible refine stI ?_
                  try simp (maxSteps:=1000000)(dsimp:=false)(disch:=omega) only [go_sem, Φa, hP, h8_9, h8_41, h8_0, h8_2, h8_3, h8_4, h8_5, h8_40, hops]
                  refine ⟨1, _, _, _, rfl, (by show 1 ≤ 1; decide), .inr (by decide), ?_⟩
                  try with_reducible refine stI ?_
                  try simp (maxSteps:=1000000)(dsimp:=false)(disch:=omega) only [go_sem, Φa, hP, h8_9, h8_41, h8_0, h8_2, h8_3, h8_4, h8_5, h8_40, hops]
                  refine hK40 _ _ ?_
                  try clear hK40 K40
                  refine SX.ret ?_
                  simp only [andThen_normal, andThen_ret, andThen_exit, inBlk_normal, inBlk_ret, inBlk_exit, Nat.reduceEqDiff, if_true, if_false, ↓reduceIte, retD_ret]
                  try simp only [res0,res1,res2,res3,stK_e,resX,resK,oneOr,ld_ptr,loadVC,loadN,List.nil_append,List.cons_append,Nat.reduceAdd,Nat.add_zero,Nat.zero_add,Addr.add_lit,Addr.add_zero',add_addS,T.elS_23,T.szA_23,T.zr_23,Tryd.underlying23,T.szA_25,T.zr_25,Tryd.underlying25,T.szA_3,T.zr_3,Tryd.underlying3,go_sem,Φa,hP,h8_9,h8_41,h8_0,h8_2,h8_3,h8_4,h8_5,h8_40]
                  refine DCall.mono (idle_spec hP) (fun u' L' hx => ?_)
                  obtain ⟨hs, rfl⟩ := hx
                  have hu := unp_ok hhd (by omega) hfin (by omega)
                  refine ⟨hs, .tuple #[.slice oA l.length oC, .int .i64 0, .int .i64 0], _, less_fin, ?_, .slice oA l.length oC, so, by rw [hu], rfl, by rw [hu]; exact hrow⟩
                  unfold resX
                  simp (dsimp := false) only [go_sem, resK, oneOr, ld_ptr, hP, *, List.nil_append, List.cons_append, Addr.add_lit, Addr.add_zero', T.szA_23, T.szA_25, T.szA_3, loadVC]
                  exact ⟨_, Cell.at 3 rfl rfl, _, Cell.at 2 rfl rfl, _, Cell.at 1 rfl rfl, rfl⟩

end Go.Proofs.YtcenlgofldnfcaaDoor
set_option linter.unusedVariables false
namespace Go.Proofs
open Go.Shelf Go.RowKit Go.Lib
def Tryd.lays169_ren : Go.Shelf.Ren := ⟨fun | 169 => 31 | n => n, fun | 70 => 48 | 9 => 9 | 0 => 0 | 72 => 50 | 37 => 30 | 127 => 84 | 3 => 3 | 5 => 5 | n => n, fun | n => n⟩
theorem Tryd.lays169 : Go.Proofs.Lays.n169 Tryd.prog Tryd.lays169_ren := {
  mixed := by kernel_rfl
  f169 := Tryd.func31.trans (congrArg some (by kernel_rfl))
  t0 := Tryd.underlying0
  a0 := Tryd.isAgg0
  z0 := Tryd.sizeOf0
  v0 := Tryd.zeroValue0
  t3 := Tryd.underlying3
  a3 := Tryd.isAgg3
  z3 := Tryd.sizeOf3
  v3 := Tryd.zeroValue3
  t9 := Tryd.underlying9
  a9 := Tryd.isAgg9
  z9 := Tryd.sizeOf9
  v9 := Tryd.zeroValue9
  t37 := Tryd.underlying30
  a37 := Tryd.isAgg30
  z37 := Tryd.sizeOf30
  v37 := Tryd.zeroValue30
  t70 := Tryd.underlying48
  a70 := Tryd.isAgg48
  z70 := Tryd.sizeOf48
  v70 := Tryd.zeroValue48
  t72 := Tryd.underlying50
  a72 := Tryd.isAgg50
  z72 := Tryd.sizeOf50
  v72 := Tryd.zeroValue50
  t127 := Tryd.underlying84
  a127 := Tryd.isAgg84
  z127 := Tryd.sizeOf84
  v127 := Tryd.zeroValue84 }
theorem Tryd.Builder_Extra_169 : Builder.Extra Tryd.prog Tryd.lays169_ren := {
  sizeBuilder := by kernel_rfl
  liesBuilder := by kernel_rfl
  t5 := Tryd.underlying5
  a5 := Tryd.isAgg5
  z5 := Tryd.sizeOf5
  v5 := Tryd.zeroValue5
  infoByte := by kernel_rfl
  cellsByte := by kernel_rfl
  sizeByte := by kernel_rfl
  neB5 := by decide }
theorem Tryd.Builder_String_any (B b : Nat) (l : List UInt8) (w : World) (h : Lib.IsBuilder 50 5 B b (Lib.byteCells l) w) (hBw : B ≤ w.heap.size) :
    Calls Tryd.prog 31 #[.pointer (some ⟨b, 0, none⟩)] w fun e w' => e = .returned (.string ⟨l.toArray⟩) ∧ Below B w w' := Any.Builder_String_any Tryd.lays169 Tryd.Builder_Extra_169 B b l w h hBw
def Tryd.lays156_ren : Go.Shelf.Ren := ⟨fun | 156 => 48 | 165 => 68 | 166 => 28 | 169 => 31 | 240 => 46 | 241 => 74 | 276 => 57 | 277 => 82 | n => n, fun | 31 => 75 | 9 => 9 | 3 => 3 | 4 => 4 | 0 => 0 | 20 => 20 | 72 => 50 | 76 => 53 | 70 => 48 | 37 => 30 | 75 => 52 | 127 => 84 | 164 => 93 | 5 => 5 | 80 => 57 | n => n, fun | n => n⟩
theorem Tryd.lays156 : Go.Proofs.Lays.n156 Tryd.prog Tryd.lays156_ren := {
  mixed := by kernel_rfl
  f156 := Tryd.func48.trans (congrArg some (by kernel_rfl))
  f165 := Tryd.func68.trans (congrArg some (by kernel_rfl))
  f166 := Tryd.func28.trans (congrArg some (by kernel_rfl))
  f169 := Tryd.func31.trans (congrArg some (by kernel_rfl))
  f240 := Tryd.func46.trans (congrArg some (by kernel_rfl))
  f241 := Tryd.func74.trans (congrArg some (by kernel_rfl))
  f276 := Tryd.func57.trans (congrArg some (by kernel_rfl))
  f277 := Tryd.func82.trans (congrArg some (by kernel_rfl))
  t0 := Tryd.underlying0
  a0 := Tryd.isAgg0
  z0 := Tryd.sizeOf0
  v0 := Tryd.zeroValue0
  t3 := Tryd.underlying3
  a3 := Tryd.isAgg3
  z3 := Tryd.sizeOf3
  v3 := Tryd.zeroValue3
  t4 := Tryd.underlying4
  a4 := Tryd.isAgg4
  z4 := Tryd.sizeOf4
  v4 := Tryd.zeroValue4
  t9 := Tryd.underlying9
  a9 := Tryd.isAgg9
  z9 := Tryd.sizeOf9
  v9 := Tryd.zeroValue9
  t20 := Tryd.underlying20
  a20 := Tryd.isAgg20
  z20 := Tryd.sizeOf20
  v20 := Tryd.zeroValue20
  t31 := Tryd.underlying75
  a31 := Tryd.isAgg75
  z31 := Tryd.sizeOf75
  v31 := Tryd.zeroValue75
  t37 := Tryd.underlying30
  a37 := Tryd.isAgg30
  z37 := Tryd.sizeOf30
  v37 := Tryd.zeroValue30
  t70 := Tryd.underlying48
  a70 := Tryd.isAgg48
  z70 := Tryd.sizeOf48
  v70 := Tryd.zeroValue48
  t72 := Tryd.underlying50
  a72 := Tryd.isAgg50
  z72 := Tryd.sizeOf50
  v72 := Tryd.zeroValue50
  t75 := Tryd.underlying52
  a75 := Tryd.isAgg52
  z75 := Tryd.sizeOf52
  v75 := Tryd.zeroValue52
  t76 := Tryd.underlying53
  a76 := Tryd.isAgg53
  z76 := Tryd.sizeOf53
  v76 := Tryd.zeroValue53
  t127 := Tryd.underlying84
  a127 := Tryd.isAgg84
  z127 := Tryd.sizeOf84
  v127 := Tryd.zeroValue84
  t164 := Tryd.underlying93
  a164 := Tryd.isAgg93
  z164 := Tryd.sizeOf93
  v164 := Tryd.zeroValue93 }
theorem Tryd.Builder_Extra_156 : Builder.Extra Tryd.prog Tryd.lays156_ren := {
  sizeBuilder := by kernel_rfl
  liesBuilder := by kernel_rfl
  t5 := Tryd.underlying5
  a5 := Tryd.isAgg5
  z5 := Tryd.sizeOf5
  v5 := Tryd.zeroValue5
  infoByte := by kernel_rfl
  cellsByte := by kernel_rfl
  sizeByte := by kernel_rfl
  neB5 := by decide }
theorem Tryd.strings_Join_none (a : Option Addr) (c : Nat) (sep : ByteArray) (w : World) :
    Calls Tryd.prog 48 #[.slice a 0 c, .string sep] w fun e w' => e = .returned (.string ⟨#[]⟩) ∧ w' = w := Any.strings_Join_none Tryd.lays156 Tryd.Builder_Extra_156 a c sep w
theorem Tryd.strings_Join (bk o c : Nat) (xs : List ByteArray) (sep : ByteArray) (w : World) (hcells : ∀ (j : Nat) x, xs[j]? = some x → w.cell? ⟨bk, o + j, none⟩ = some (.string x)) (hbk : bk < w.heap.size) (hN : xs.length ≤ 140737488355328) (hcap : xs.length ≤ c) (hlen : (Lib.join (xs.map (·.data.toList)) sep.data.toList).length ≤ 140737488355328) :
    Calls Tryd.prog 48 #[.slice (some ⟨bk, o, none⟩) xs.length c, .string sep] w fun e w' => e = .returned (.string ⟨(Lib.join (xs.map (·.data.toList)) sep.data.toList).toArray⟩) ∧ Below w.heap.size w w' := Any.strings_Join Tryd.lays156 Tryd.Builder_Extra_156 bk o c xs sep w hcells hbk hN hcap hlen
def Tryd.lays145_ren : Go.Shelf.Ren := ⟨fun | 145 => 41 | 220 => 51 | 219 => 70 | 217 => 75 | 225 => 76 | 224 => 77 | 267 => 78 | 266 => 83 | 314 => 84 | n => n, fun | 9 => 9 | 4 => 4 | 59 => 71 | 3 => 3 | 5 => 5 | 46 => 58 | 146 => 105 | 51 => 104 | n => n, fun | 1 => 1 | n => n⟩
theorem Tryd.lays145 : Go.Proofs.Lays.n145 Tryd.prog Tryd.lays145_ren := {
  mixed := by kernel_rfl
  f145 := Tryd.func41.trans (congrArg some (by kernel_rfl))
  f217 := Tryd.func75.trans (congrArg some (by kernel_rfl))
  f219 := Tryd.func70.trans (congrArg some (by kernel_rfl))
  f220 := Tryd.func51.trans (congrArg some (by kernel_rfl))
  f224 := Tryd.func77.trans (congrArg some (by kernel_rfl))
  f225 := Tryd.func76.trans (congrArg some (by kernel_rfl))
  f266 := Tryd.func83.trans (congrArg some (by kernel_rfl))
  f267 := Tryd.func78.trans (congrArg some (by kernel_rfl))
  f314 := Tryd.func84.trans (congrArg some (by kernel_rfl))
  t3 := Tryd.underlying3
  a3 := Tryd.isAgg3
  z3 := Tryd.sizeOf3
  v3 := Tryd.zeroValue3
  t4 := Tryd.underlying4
  a4 := Tryd.isAgg4
  z4 := Tryd.sizeOf4
  v4 := Tryd.zeroValue4
  t5 := Tryd.underlying5
  a5 := Tryd.isAgg5
  z5 := Tryd.sizeOf5
  v5 := Tryd.zeroValue5
  t9 := Tryd.underlying9
  a9 := Tryd.isAgg9
  z9 := Tryd.sizeOf9
  v9 := Tryd.zeroValue9
  t46 := Tryd.underlying58
  a46 := Tryd.isAgg58
  z46 := Tryd.sizeOf58
  v46 := Tryd.zeroValue58
  t51 := Tryd.underlying104
  a51 := Tryd.isAgg104
  z51 := Tryd.sizeOf104
  v51 := Tryd.zeroValue104
  t59 := Tryd.underlying71
  a59 := Tryd.isAgg71
  z59 := Tryd.sizeOf71
  v59 := Tryd.zeroValue71
  t146 := Tryd.underlying105
  a146 := Tryd.isAgg105
  z146 := Tryd.sizeOf105
  v146 := Tryd.zeroValue105
  g1 := by kernel_rfl }
theorem Tryd.strings_Cut (s sep : ByteArray) (m : Int) (w : World) (hs : s.size < 4294967281) (hm : w.cell? ⟨1, 0, none⟩ = some (.int .i64 m)) :
    Calls Tryd.prog 41 #[.string s, .string sep] w fun e w' => e = .returned (.tuple #[.string ⟨(Lib.cut s.data.toList sep.data.toList).1.toArray⟩, .string ⟨(Lib.cut s.data.toList sep.data.toList).2.1.toArray⟩, .bool (Lib.cut s.data.toList sep.data.toList).2.2]) ∧ ∃ n, w' = w.drewN n := Any.strings_Cut Tryd.lays145 s sep m w hs hm
def Tryd.laysM145_ren : Go.Shelf.Ren := ⟨fun | 145 => 41 | 220 => 51 | 219 => 70 | 217 => 75 | 225 => 76 | 224 => 77 | 267 => 78 | 266 => 83 | 314 => 84 | n => n, fun | 9 => 9 | 4 => 4 | 59 => 71 | 3 => 3 | 5 => 5 | 46 => 58 | 146 => 105 | 51 => 104 | n => n, fun | 1 => 1 | n => n⟩
theorem Tryd.laysM145 : Go.Proofs.LaysM.n145 Tryd.prog Tryd.laysM145_ren := {
  mixed := by kernel_rfl
  f145 := Tryd.func41.trans (congrArg some (by kernel_rfl))
  f217 := Tryd.func75.trans (congrArg some (by kernel_rfl))
  f219 := Tryd.func70.trans (congrArg some (by kernel_rfl))
  f220 := Tryd.func51.trans (congrArg some (by kernel_rfl))
  f224 := Tryd.func77.trans (congrArg some (by kernel_rfl))
  f225 := Tryd.func76.trans (congrArg some (by kernel_rfl))
  f266 := Tryd.func83.trans (congrArg some (by kernel_rfl))
  f267 := Tryd.func78.trans (congrArg some (by kernel_rfl))
  f314 := Tryd.func84.trans (congrArg some (by kernel_rfl))
  t3 := Tryd.underlying3
  a3 := Tryd.isAgg3
  z3 := Tryd.sizeOf3
  v3 := Tryd.zeroValue3
  t4 := Tryd.underlying4
  a4 := Tryd.isAgg4
  z4 := Tryd.sizeOf4
  v4 := Tryd.zeroValue4
  t5 := Tryd.underlying5
  a5 := Tryd.isAgg5
  z5 := Tryd.sizeOf5
  v5 := Tryd.zeroValue5
  t9 := Tryd.underlying9
  a9 := Tryd.isAgg9
  z9 := Tryd.sizeOf9
  v9 := Tryd.zeroValue9
  t46 := Tryd.underlying58
  a46 := Tryd.isAgg58
  z46 := Tryd.sizeOf58
  v46 := Tryd.zeroValue58
  t51 := Tryd.underlying104
  a51 := Tryd.isAgg104
  z51 := Tryd.sizeOf104
  v51 := Tryd.zeroValue104
  t59 := Tryd.underlying71
  a59 := Tryd.isAgg71
  z59 := Tryd.sizeOf71
  v59 := Tryd.zeroValue71
  t146 := Tryd.underlying105
  a146 := Tryd.isAgg105
  z146 := Tryd.sizeOf105
  v146 := Tryd.zeroValue105
  g1 := by kernel_rfl
  i3 := by kernel_rfl
  i4 := by kernel_rfl
  i5 := by kernel_rfl
  i9 := by kernel_rfl
  i46 := by kernel_rfl
  i51 := by kernel_rfl
  i59 := by kernel_rfl
  i146 := by kernel_rfl
  m1 := by kernel_rfl
  s1_3 := fun w h => Go.Proofs.cell_of_shapedOpen_int (zero := #[.int .i64 0]) (t := 3) h (of_decide_eq_true (by kernel_rfl)) (by kernel_rfl) rfl (by kernel_rfl) (by kernel_rfl) Tryd.underlying3 }
def Tryd.lays99_ren : Go.Shelf.Ren := ⟨fun | 99 => 53 | 206 => 72 | n => n, fun | 9 => 9 | 4 => 4 | 3 => 3 | n => n, fun | n => n⟩
theorem Tryd.lays99 : Go.Proofs.Lays.n99 Tryd.prog Tryd.lays99_ren := {
  mixed := by kernel_rfl
  f99 := Tryd.func53.trans (congrArg some (by kernel_rfl))
  f206 := Tryd.func72.trans (congrArg some (by kernel_rfl))
  t3 := Tryd.underlying3
  a3 := Tryd.isAgg3
  z3 := Tryd.sizeOf3
  v3 := Tryd.zeroValue3
  t4 := Tryd.underlying4
  a4 := Tryd.isAgg4
  z4 := Tryd.sizeOf4
  v4 := Tryd.zeroValue4
  t9 := Tryd.underlying9
  a9 := Tryd.isAgg9
  z9 := Tryd.sizeOf9
  v9 := Tryd.zeroValue9 }
theorem Tryd.strings_HasPrefix (s p : ByteArray) (w : World) :
    Calls Tryd.prog 53 #[.string s, .string p] w fun e w' => e = .returned (.bool (Lib.hasPrefix s.data.toList p.data.toList)) ∧ w' = w := Any.strings_HasPrefix Tryd.lays99 s p w
def Tryd.lays146_ren : Go.Shelf.Ren := ⟨fun | 146 => 52 | 221 => 71 | 268 => 79 | 138 => 80 | 143 => 81 | 195 => 85 | 197 => 86 | 218 => 87 | 219 => 70 | 260 => 88 | 217 => 75 | 225 => 76 | 224 => 77 | 267 => 78 | 266 => 83 | 314 => 84 | n => n, fun | 9 => 9 | 31 => 75 | 3 => 3 | 4 => 4 | 0 => 0 | 105 => 107 | 21 => 21 | 5 => 5 | 46 => 58 | 119 => 109 | 139 => 112 | 138 => 111 | 146 => 105 | 51 => 104 | n => n, fun | 1 => 1 | 3 => 2 | 4 => 3 | n => n⟩
theorem Tryd.lays146 : Go.Proofs.Lays.n146 Tryd.prog Tryd.lays146_ren := {
  mixed := by kernel_rfl
  f138 := Tryd.func80.trans (congrArg some (by kernel_rfl))
  f143 := Tryd.func81.trans (congrArg some (by kernel_rfl))
  f146 := Tryd.func52.trans (congrArg some (by kernel_rfl))
  f195 := Tryd.func85.trans (congrArg some (by kernel_rfl))
  f197 := Tryd.func86.trans (congrArg some (by kernel_rfl))
  f217 := Tryd.func75.trans (congrArg some (by kernel_rfl))
  f218 := Tryd.func87.trans (congrArg some (by kernel_rfl))
  f219 := Tryd.func70.trans (congrArg some (by kernel_rfl))
  f221 := Tryd.func71.trans (congrArg some (by kernel_rfl))
  f224 := Tryd.func77.trans (congrArg some (by kernel_rfl))
  f225 := Tryd.func76.trans (congrArg some (by kernel_rfl))
  f260 := Tryd.func88.trans (congrArg some (by kernel_rfl))
  f266 := Tryd.func83.trans (congrArg some (by kernel_rfl))
  f267 := Tryd.func78.trans (congrArg some (by kernel_rfl))
  f268 := Tryd.func79.trans (congrArg some (by kernel_rfl))
  f314 := Tryd.func84.trans (congrArg some (by kernel_rfl))
  t0 := Tryd.underlying0
  a0 := Tryd.isAgg0
  z0 := Tryd.sizeOf0
  v0 := Tryd.zeroValue0
  t3 := Tryd.underlying3
  a3 := Tryd.isAgg3
  z3 := Tryd.sizeOf3
  v3 := Tryd.zeroValue3
  t4 := Tryd.underlying4
  a4 := Tryd.isAgg4
  z4 := Tryd.sizeOf4
  v4 := Tryd.zeroValue4
  t5 := Tryd.underlying5
  a5 := Tryd.isAgg5
  z5 := Tryd.sizeOf5
  v5 := Tryd.zeroValue5
  t9 := Tryd.underlying9
  a9 := Tryd.isAgg9
  z9 := Tryd.sizeOf9
  v9 := Tryd.zeroValue9
  t21 := Tryd.underlying21
  a21 := Tryd.isAgg21
  z21 := Tryd.sizeOf21
  v21 := Tryd.zeroValue21
  t31 := Tryd.underlying75
  a31 := Tryd.isAgg75
  z31 := Tryd.sizeOf75
  v31 := Tryd.zeroValue75
  t46 := Tryd.underlying58
  a46 := Tryd.isAgg58
  z46 := Tryd.sizeOf58
  v46 := Tryd.zeroValue58
  t51 := Tryd.underlying104
  a51 := Tryd.isAgg104
  z51 := Tryd.sizeOf104
  v51 := Tryd.zeroValue104
  t105 := Tryd.underlying107
  a105 := Tryd.isAgg107
  z105 := Tryd.sizeOf107
  v105 := Tryd.zeroValue107
  t119 := Tryd.underlying109
  a119 := Tryd.isAgg109
  z119 := Tryd.sizeOf109
  t138 := Tryd.underlying111
  a138 := Tryd.isAgg111
  z138 := Tryd.sizeOf111
  v138 := Tryd.zeroValue111
  t139 := Tryd.underlying112
  a139 := Tryd.isAgg112
  z139 := Tryd.sizeOf112
  v139 := Tryd.zeroValue112
  t146 := Tryd.underlying105
  a146 := Tryd.isAgg105
  z146 := Tryd.sizeOf105
  v146 := Tryd.zeroValue105
  g1 := by kernel_rfl
  g3 := by kernel_rfl
  g4 := by kernel_rfl }
theorem Tryd.strings_Split (s sep : ByteArray) (m : Int) (w : World) (hs : s.size < 4294967281) (hm : w.cell? ⟨1, 0, none⟩ = some (.int .i64 m)) (h1 : 1 ≤ sep.size) :
    Calls Tryd.prog 52 #[.string s, .string sep] w fun e w' =>
      e = .returned (.slice (some ⟨w.heap.size, 0, none⟩) (Lib.countB s sep + 1) (Lib.countB s sep + 1)) ∧ w' = w.alloc (.cells ((Lib.splitB sep 0 (Lib.countB s sep) s).map Value.string).toArray 9) := Any.strings_Split Tryd.lays146 (by kernel_rfl) s sep m w hs hm h1
end Go.Proofs
set_option linter.unusedVariables false
set_option linter.unusedSimpArgs false
namespace Go.Proofs.YtcenlgofldnfcaaDoor
open Go.RowKit Go.SX Go.Proofs
/-! strings.Builder: copyCheck. -/
theorem bInfo : (Tryd.prog.info? 50).map (·.size) = some 2 := by kernel_rfl
theorem bLies : liesAt Tryd.prog Tryd.prog.depth 50 (2 / Tryd.prog.cellsOf 50) 0 50 1 = true := by kernel_rfl
set_option maxHeartbeats 1000000 in
set_option maxRecDepth 100000 in
theorem copyCheck_used (b : Nat) (w : World) (h0 : w.cell? ⟨b, 0, none⟩ = some (.pointer (some ⟨b, 0, none⟩))) :
    Calls Tryd.prog 46 #[.pointer (some ⟨b, 0, none⟩)] w fun e w' => e = .returned (.tuple #[]) ∧ w' = w := by
  obtain ⟨j, hj, _⟩ := Option.map_eq_some_iff.1 bInfo
  go_enter Tryd.func46, Tryd.ntmps46
  go_wp2
  rw [Lib.run_neq_ptr_same w _ Tryd.underlying48 hj]
  go_wp2
  go_end0
  exact ⟨rfl, rfl⟩
set_option maxHeartbeats 1000000 in
set_option maxRecDepth 100000 in
theorem copyCheck_fresh (b : Nat) (w : World) (h0 : w.cell? ⟨b, 0, none⟩ = some (.pointer none)) (hsh : w.shape? b = some (50, 2)) (hfz : w.frozen? ⟨b, 0, none⟩ = false) :
    Calls Tryd.prog 46 #[.pointer (some ⟨b, 0, none⟩)] w fun e w' => e = .returned (.tuple #[]) ∧ w' = w.setCell ⟨b, 0, none⟩ (.pointer (some ⟨b, 0, none⟩)) := by
  obtain ⟨j, hj, hjs⟩ := Option.map_eq_some_iff.1 bInfo
  go_enter Tryd.func46, Tryd.ntmps46
  go_wp2
  rw [Lib.run_to_unsafe w ⟨b, 0, none⟩ Tryd.underlying48 Tryd.underlying93 hj (by rw [hjs]; decide) hsh (Nat.zero_lt_succ 1)]
  simp only [Result.andThen]
  rw [Oper.upon_value]
  go_wp2
  rw [run_callFunc_extern Tryd.func57 (by kernel_rfl) (by kernel_rfl) (by kernel_rfl) (e := Extern.AbiNoEscape.same) (by kernel_rfl)]
  rw [Lib.run_noEscape]
  simp only [Result.andThen]
  rw [Oper.upon_value]
  go_wp2
  rw [Lib.run_from_unsafe w ⟨b, 0, none⟩ Tryd.underlying93 Tryd.underlying48 hj hsh bLies]
  simp only [Result.andThen]
  rw [Oper.upon_value]
  go_wp2
  go_end0
  exact ⟨rfl, rfl⟩
abbrev BD (b : Nat) (p vb : Value) : Slot := some (b, .cells [p, vb].toArray 50 (0, 0))
abbrev selfP (b : Nat) : Value := .pointer (some ⟨b, 0, none⟩)
def Ptr (b : Nat) (p : Value) : Prop := p = .pointer none ∨ p = selfP b
theorem copyCheck_spec {Γ : Ctx} (hP : Γ.P = Tryd.prog) {b : Nat} {p vb : Value} {R : Hp} (hp : Ptr b p) : SCall Γ 46 #[selfP b] (BD b p vb :: R) (fun v L' => v = .tuple #[] ∧ L' = BD b (selfP b) vb :: R) := fun w hi => by
  have hb := hi.blk b _ (List.mem_cons_self ..)
  rw [hP]
  rcases hp with rfl | rfl
  · refine (copyCheck_fresh b w (by simp [World.cell?, hb]) (by simp [World.shape?, hb]) (by simp [World.frozen?, hb])).mono ?_
    rintro e w' ⟨rfl, rfl⟩
    refine ⟨_, _, rfl, hi.set (i := 0) (o' := .cells [selfP b, vb].toArray 50 (0, 0)) rfl ?_ (fun k hk => Below.heap_setCell _ _ _ _ hk) (World.size_setCell _ _ _) rfl rfl rfl, rfl, rfl⟩
    simp [World.setCell, Array.getElem?_modify, hb]
  · refine (copyCheck_used b w (by simp [World.cell?, hb])).mono ?_
    rintro e w' ⟨rfl, rfl⟩
    exact ⟨_, _, rfl, hi, rfl, rfl⟩
theorem bytes_cells {bs : List Int} (h : Byte bs) : ints .u8 bs = Lib.byteCells (bs.map fun n : Int => UInt8.ofNat n.toNat) := by
  unfold ints Lib.byteCells
  rw [List.map_map]
  refine List.map_congr_left fun x hx => ?_
  show Value.int .u8 x = .int .u8 _
  rw [byte_back (h x hx)]
theorem String_spec {Γ : Ctx} (hP : Γ.P = Tryd.prog) (ho : Γ.own = []) {b : Nat} {p vb : Value} {sb : Slot} {bs : List Int} {R : Hp} (hp : Ptr b p) (hr : RowI .u8 5 vb bs sb) (hb : Byte bs) : SCall Γ 31 #[selfP b] (BD b p vb :: sb :: R) (fun v L' => v = .string (txt bs) ∧ L' = []) := fun w hi => by
  have hblk := hi.blk b _ (List.mem_cons_self ..)
  have src : ∀ g o, some (g, o) ∈ (BD b p vb :: sb :: R) → Γ.w0.heap.size ≤ g := fun g o hm => by
    rcases hi.src g o hm with h | h
    · rw [ho] at h; cases h
    · exact h
  have hBb := src b _ (List.mem_cons_self ..)
  have hrow : w.ownsRow Γ.w0.heap.size 5 1 vb (Lib.byteCells (bs.map fun n : Int => UInt8.ofNat n.toNat)).length (Lib.byteCells (bs.map fun n : Int => UInt8.ofNat n.toNat)) ∧ vb.ownBlock ≠ some b := by
    rw [← bytes_cells hb, ints_length]
    obtain ⟨hl, h⟩ := hr
    rcases h with ⟨h1, hn, h2⟩ | ⟨g, cap, junk, h1, h2, hc, hlen⟩
    · subst h1
      exact ⟨⟨hl, .inl ⟨rfl, hn⟩⟩, by simp [Value.ownBlock]⟩
    · subst h1 h2
      have hg : some (g, Obj.cells (ints .u8 bs ++ junk).toArray 5 (0, 0)) ∈ (BD b p (.slice (some ⟨g, 0, none⟩) bs.length cap) :: some (g, Obj.cells (ints .u8 bs ++ junk).toArray 5 (0, 0)) :: R) := List.mem_cons_of_mem _ (List.mem_cons_self ..)
      refine ⟨⟨hl, .inr ⟨g, cap, _, rfl, src g _ hg, hi.blk g _ hg, hc.1, hc.2, by rw [List.size_toArray]; exact hlen, ?_⟩⟩, ?_⟩
      · rw [List.take_append_of_le_length (by rw [hl]; exact Nat.le_refl _), List.take_of_length_le (by rw [hl]; exact Nat.le_refl _)]
      · intro he
        simp only [Value.ownBlock, Option.some.injEq] at he
        subst he
        have := hi.inj 0 1 _ _ _ rfl rfl
        omega
  have hB : Lib.IsBuilder 50 5 Γ.w0.heap.size b (Lib.byteCells (bs.map fun n : Int => UInt8.ofNat n.toNat)) w := by
    rcases hp with rfl | rfl
    · exact .inl ⟨hBb, vb, hblk, hrow⟩
    · exact .inr ⟨hBb, vb, hblk, hrow⟩
  rw [hP]
  refine (Tryd.Builder_String_any Γ.w0.heap.size b _ w hB hi.size).mono ?_
  rintro e w' ⟨rfl, hb'⟩
  refine ⟨_, [], rfl, ⟨fun i j b o o' h => by simp at h, fun b o h => by simp at h, fun b o h => by simp at h, hb'.os.trans hi.os, hb'.tape.trans hi.tape, hb'.output.trans hi.output, Nat.le_trans hi.size hb'.size, fun k hk hn => (hb'.block k hk).trans (hi.old k hk hn)⟩, rfl, rfl⟩
/-- What leaves nothing behind may be proved at its own first world. -/
theorem SCall.lift {Γ : Ctx} {f : FuncId} {args : Array Value} {L : Hp} {v : Value} (h : ∀ w, Inv Γ L w → SCall ⟨Γ.P, w, []⟩ f args [] (fun v' L' => v' = v ∧ L' = [])) : SCall Γ f args L (fun v' L' => v' = v ∧ L' = L) :=
  SCall.of_below fun w hi => SCall.below (h w hi)
theorem Cell.lift {Γ : Ctx} {L : Hp} {w : World} (hi : Inv Γ L w) {a : Addr} {v : Value} (h : Cell Γ L a v) : Cell ⟨Γ.P, w, []⟩ [] a v := Cell.old (by simp) (h.real hi)
theorem bytesV_nums (s : ByteArray) : bytesV s = ints .u8 (nums8 s) := by
  unfold bytesV ints nums8
  rw [List.map_map]
  rfl
theorem YAppend.str {Γ : Ctx} {L : Hp} {ty tx e by_ i : Nat} {z : List Value} {v : Value} {l : List Int} {st : ByteArray} {s : Slot} {K : Value → Hp → Prop}
    (hel : elS Γ.P ty = some (e, 1, by_)) (hz : zr Γ.P e = some z) (hzl : z.length = 1) (ht : Γ.P.underlying tx = some .string) (hL : L[i]? = some s) (hr : RowI .u8 e v l s)
    (hb : (l.length + st.size) * by_ ≤ 140737488355328) (hb0 : 0 < by_) (hK : ∀ v' s', RowI .u8 e v' (l ++ nums8 st) s' → K v' (L.set i s')) : YAppend Γ ty tx v (.string st) L K := by
  refine YAppend.row (i := i) (ys := SX.ints .u8 (nums8 st)) (m := st.size) hel hz hzl hL hr (by rw [← bytesV_nums]; exact SrcV.str ht) (by rw [ints_length, nums8_length, Nat.mul_one]) hb hb0 fun v' s' hr' => hK v' s' (by
    show Row e 1 v' (l ++ nums8 st).length (SX.ints .u8 (l ++ nums8 st)) s'
    rw [ints_app, List.length_append, nums8_length]
    exact hr')
set_option maxHeartbeats 1000000 in
set_option maxRecDepth 100000 in
theorem WriteString_spec {Γ : Ctx} (hP : Γ.P = Tryd.prog) {L : Hp} {b : Nat} {p vb : Value} {sb : Slot} {bs : List Int} {s : ByteArray} (hp : Ptr b p) (hr : RowI .u8 5 vb bs sb) (hm : bs.length + s.size ≤ 140737488355328) :
    SCall Γ 28 #[(selfP b), (.string s)] (BD b p vb :: sb :: L) (fun v L' => v = .tuple #[.int .i64 (s.size : Int), .nilIface] ∧ ∃ vb' sb', L' = BD b (selfP b) vb' :: sb' :: L ∧ RowI .u8 5 vb' (bs ++ nums8 s) sb') := by
  refine SCall.enter (n := 19) (res2 4 5) (hP ▸ Tryd.func28) rfl rfl (by simp) (res2_ok rfl) ?_
  refine SX.seq_k fun K1 hK1 => ?_
  refine SX.region_d [some 4, some 5] rfl (fun ops hops => ?_)
  unfold Dsts at hops
  simp (maxSteps:=1000000)(dsimp:=false)(disch:=omega) only [go_sem, ia_someH, hP, hops]
  refine hK1 _ _ ?_
  try clear hK1 K1
  refine SX.seq_k fun K2 hK2 => ?_
  refine SX.region_d [some 6, some 7] rfl (fun ops hops => ?_)
  unfold Dsts at hops
  simp (maxSteps:=1000000)(dsimp:=false)(disch:=omega) only [go_sem, ia_someH, hP, hops]
  refine SCall.mono (copyCheck_spec hP hp) ?_
  rintro v_ L_ ⟨hv_, hL_⟩
  rw [hv_, hL_]
  clear hv_ hL_ v_ L_
  try with_reducible refine stI ?_
  try simp (maxSteps:=1000000)(dsimp:=false)(disch:=omega) only [go_sem, ia_someH, hP, hops]
  refine hK2 _ _ ?_
  try clear hK2 K2
  refine SX.seq_k fun K3 hK3 => ?_
  refine SX.region_d [some 8, some 9, some 10, some 11, some 12, some 13, some 14, some 15, some 16, none] rfl (fun ops hops => ?_)
  unfold Dsts at hops
  simp (maxSteps:=1000000)(dsimp:=false)(disch:=omega) only [go_sem, ia_someH, hP, hops]
  refine ⟨_, Cell.at 0 rfl rfl, ?_⟩
  try with_reducible refine stI ?_
  try simp (maxSteps:=1000000)(dsimp:=false)(disch:=omega) only [go_sem, ia_someH, hP, hops]
  refine YAppend.str (i := 1) (hP ▸ T.elS_30) (hP ▸ T.zr_5) rfl (hP ▸ Tryd.underlying9) rfl hr (by omega) (by decide) ?_
  intro v' s' hr'
  obtain ⟨A', c', rfl, hcc', _⟩ := Row.form hr'
  try with_reducible refine stI ?_
  try simp (maxSteps:=1000000)(dsimp:=false)(disch:=omega) only [go_sem, ia_someH, hP, hops]
  refine ⟨0, _, _, _, rfl, (by simp), .inr (by decide), ?_⟩
  try with_reducible refine stI ?_
  try simp (maxSteps:=1000000)(dsimp:=false)(disch:=omega) only [go_sem, ia_someH, hP, hops]
  refine hK3 _ _ ?_
  try clear hK3 K3
  refine SX.live [1] (fun T1 hT1 => ?_)
  simp only [forall_mem_cons', forall_mem_nil', go_sem, ia_someH, hP] at hT1
  have h1_1 := hT1; clear hT1
  refine SX.seq_k fun K4 hK4 => ?_
  refine SX.region_d [some 17, some 18, some 4, some 5] rfl (fun ops hops => ?_)
  unfold Dsts at hops
  simp (maxSteps:=1000000)(dsimp:=false)(disch:=omega) only [go_sem, ia_someH, hP, h1_1, hops]
  repeat' ((first | refine And.intro (by omega) ?_ | fail); try (with_reducible refine stI ?_); try simp (maxSteps:=1000000)(dsimp:=false)(disch:=omega) only [go_sem, ia_someH, hP, h1_1, hops])
  refine hK4 _ _ ?_
  try clear hK4 K4
  refine SX.ret ?_
  simp only [andThen_normal, andThen_ret, andThen_exit, inBlk_normal, inBlk_ret, inBlk_exit, Nat.reduceEqDiff, if_true, if_false, ↓reduceIte, retQ_ret]
  try simp only [res0, res1, res2, res3, stK_e, go_sem, ia_someH, hP, h1_1]
  exact ⟨_, _, Less.refl _, rfl, rfl, _, _, rfl, hr'⟩
set_option maxHeartbeats 1000000 in
set_option maxRecDepth 100000 in
theorem Len_spec {Γ : Ctx} (hP : Γ.P = Tryd.prog) {L : Hp} {b : Nat} {p vb : Value} {sb : Slot} {bs : List Int} (hr : RowI .u8 5 vb bs sb) :
    SCall Γ 30 #[(selfP b)] (BD b p vb :: sb :: L) (fun v L' => v = .int .i64 (bs.length : Int) ∧ L' = BD b p vb :: sb :: L) := by
  obtain ⟨A', c', rfl, hcc', _⟩ := Row.form hr
  refine SCall.enter (n := 8) (res1 2) (hP ▸ Tryd.func30) rfl rfl (by simp) (res1_ok rfl) ?_
  refine SX.seq_k fun K1 hK1 => ?_
  refine SX.region_d [some 2] rfl (fun ops hops => ?_)
  unfold Dsts at hops
  simp (maxSteps:=1000000)(dsimp:=false)(disch:=omega) only [go_sem, ia_someH, hP, hops]
  refine hK1 _ _ ?_
  try clear hK1 K1
  refine SX.seq_k fun K2 hK2 => ?_
  refine SX.region_d [some 3, some 4, some 5, some 6, some 7, some 2] rfl (fun ops hops => ?_)
  unfold Dsts at hops
  simp (maxSteps:=1000000)(dsimp:=false)(disch:=omega) only [go_sem, ia_someH, hP, hops]
  refine ⟨_, Cell.at 0 rfl rfl, ?_⟩
  try with_reducible refine stI ?_
  try simp (maxSteps:=1000000)(dsimp:=false)(disch:=omega) only [go_sem, ia_someH, hP, hops]
  refine hK2 _ _ ?_
  try clear hK2 K2
  refine SX.ret ?_
  simp only [andThen_normal, andThen_ret, andThen_exit, inBlk_normal, inBlk_ret, inBlk_exit, Nat.reduceEqDiff, if_true, if_false, ↓reduceIte, retQ_ret]
  try simp only [res0, res1, res2, res3, stK_e, go_sem, ia_someH, hP]
  exact ⟨_, _, Less.refl _, rfl, rfl, rfl⟩
/-! bits.Hex -/
def hexDg : List UInt8 := [48, 49, 50, 51, 52, 53, 54, 55, 56, 57, 97, 98, 99, 100, 101, 102]
def dg (k : Nat) : Int := ((hexDg.getD (k % 16) 0).toNat : Int)
def hexF : Nat → Nat → List Int
  | _, 0 => []
  | n, k + 1 => hexF (n / 16) k ++ [dg n]
theorem hexF_length : ∀ (k n : Nat), (hexF n k).length = k
  | 0, n => rfl
  | k + 1, n => by rw [hexF, List.length_append, hexF_length k]; rfl
theorem dg_lt (k : Nat) : 0 ≤ dg k ∧ dg k ≤ 255 := by
  have : ∀ j, j < 16 → 0 ≤ dg j ∧ dg j ≤ 255 := by decide
  have h := this (k % 16) (Nat.mod_lt _ (by decide))
  unfold dg at h ⊢
  rwa [Nat.mod_mod] at h
theorem hexF_byte : ∀ (k n : Nat), Byte (hexF n k)
  | 0, n => fun x hx => by cases hx
  | k + 1, n => fun x hx => by
    rw [hexF] at hx
    rcases List.mem_append.1 hx with h | h
    · exact hexF_byte k _ x h
    · rw [List.mem_singleton.1 h]; exact dg_lt n
theorem dg_at (n : Nat) : ∃ b : UInt8, hexDg[n % 16]? = some b ∧ (b.toNat : Int) = dg n := by
  have hl : n % 16 < hexDg.length := Nat.mod_lt _ (by decide)
  refine ⟨hexDg[n % 16], List.getElem?_eq_getElem hl, ?_⟩
  unfold dg
  rw [List.getD_eq_getElem?_getD, List.getElem?_eq_getElem hl]
  rfl
def hexS (n k : Nat) : ByteArray := txt (hexF n k)
theorem and15 (n : Nat) (h : n < 4294967296) : bits .and .i64 (n : Int) 15 = ((n % 16 : Nat) : Int) := by
  have key := bits_mask .i64 62 (by decide) (fun n hn1 hn2 => w64 (by omega)) 4 (by decide) (n : Int) (Int.natCast_nonneg _) (by omega)
  rw [show (2 : Int) ^ 4 - 1 = 15 from rfl] at key
  rw [key]
  rfl
theorem shr4 (n : Nat) : Int.fdiv (n : Int) (2 ^ min (4 : Int).toNat 64) = ((n / 16 : Nat) : Int) := by
  rw [show (2 : Int) ^ min (4 : Int).toNat 64 = 16 from rfl, Int.fdiv_eq_ediv_of_nonneg _ (by decide)]
  rfl
theorem shr4' (n : Nat) : Int.fdiv (n : Int) (2 ^ min (4 : Nat) 64) = ((n / 16 : Nat) : Int) := shr4 n
theorem set_suf {m i : Nat} (h : i < m) (S : List Int) (d : Int) : (List.replicate (m - i) 0 ++ S).set (m - 1 - i) d = List.replicate (m - (i + 1)) 0 ++ d :: S := by
  obtain ⟨k, hk⟩ : ∃ k, m - i = k + 1 := ⟨m - i - 1, by omega⟩
  rw [hk, show m - 1 - i = k by omega, show m - (i + 1) = k by omega, List.replicate_succ', List.append_assoc, List.set_append_right _ _ (by simp)]
  simp
theorem div16 (n i : Nat) : n / 16 ^ i / 16 = n / 16 ^ (i + 1) := by rw [Nat.div_div_eq_div_mul, Nat.pow_succ]
set_option maxHeartbeats 1000000 in
set_option maxRecDepth 100000 in
theorem Hex_spec {Γ : Ctx} (hP : Γ.P = Tryd.prog) {L : Hp} {n m : Nat} (hm0 : 1 ≤ m) (hm : m ≤ 4) (hn : n < 16 ^ m) :
    SCall Γ 59 #[(.int .i64 (n : Int)), (.int .i64 (m : Int))] L (fun v L' => v = .string (hexS n m) ∧ L' = L) := by
  refine SCall.enter (n := 45) (res1 4) (hP ▸ Tryd.func59) rfl rfl (by simp) (res1_ok rfl) ?_
  refine SX.seq_k fun K1 hK1 => ?_
  refine SX.region_d [some 4] rfl (fun ops hops => ?_)
  unfold Dsts at hops
  simp (maxSteps:=1000000)(dsimp:=false)(disch:=omega) only [go_sem, ia_someH, hP, hops]
  refine hK1 _ _ ?_
  try clear hK1 K1
  refine SX.seq_k fun K2 hK2 => ?_
  refine SX.seq_k fun K3 hK3 => ?_
  have hp : IntKind.i64.wrap (1 * 2 ^ min ((4 : Int) * (m : Int)).toNat 64) = ((16 ^ m : Nat) : Int) := by
    have hm8 : m = 1 ∨ m = 2 ∨ m = 3 ∨ m = 4 := by omega
    rcases hm8 with rfl | rfl | rfl | rfl <;> rfl
  have hn' : (n : Int) < ((16 ^ m : Nat) : Int) := Int.ofNat_lt.2 hn
  refine SX.region_d [some 7, some 8, some 9, some 10, some 11, some 12, some 13, some 14, some 15, some 16, some 17, some 18, some 19, some 20, some 21, some 22, some 23] rfl (fun ops hops => ?_)
  unfold Dsts at hops
  simp (maxSteps:=1000000)(dsimp:=false)(disch:=omega) only [go_sem, ia_someH, hP, hops, hp]
  repeat' ((first | refine And.intro (by omega) ?_ | fail); try (with_reducible refine stI ?_); try simp (maxSteps:=1000000)(dsimp:=false)(disch:=omega) only [go_sem, ia_someH, hP, hops, hp])
  refine hK3 _ _ ?_
  try clear hK3 K3
  refine SX.live [0, 1, 23] (fun T1 hT1 => ?_)
  simp only [forall_mem_cons', forall_mem_nil', go_sem, ia_someH, hP] at hT1
  obtain ⟨h1_0, h1_1, h1_23⟩ := hT1
  refine SX.cond_k fun X4 Y4 hX4 hY4 => ?_
  simp (maxSteps:=1000000)(dsimp:=false)(disch:=omega) only [go_sem, ia_someH, hP, h1_0, h1_1, h1_23, condVC]
  refine hY4 ?_
  clear hX4 hY4 X4 Y4
  refine SX.skip ?_
  try simp only [andThen_normal, andThen_ret, andThen_exit, inBlk_normal, inBlk_ret, inBlk_exit, Nat.reduceEqDiff, if_true, if_false, ↓reduceIte]
  refine hK2 _ _ ?_
  try clear hK2 K2
  refine SX.seq_k fun K5 hK5 => ?_
  refine SX.region_d [some 24, some 25, some 5] rfl (fun ops hops => ?_)
  unfold Dsts at hops
  simp (maxSteps:=1000000)(dsimp:=false)(disch:=omega) only [go_sem, ia_someH, hP, h1_0, h1_1, h1_23, hops]
  repeat' ((first | intro g3 | refine And.intro (by omega) ?_ | fail); try (with_reducible refine stI ?_); try simp (maxSteps:=1000000)(dsimp:=false)(disch:=omega) only [go_sem, ia_someH, hP, h1_0, h1_1, h1_23, hops])
  refine hK5 _ _ ?_
  try clear hK5 K5
  refine SX.seq_k fun K6 hK6 => ?_
  refine SX.seq_k fun K7 hK7 => ?_
  refine SX.region_d [some 26, some 27, some 28] rfl (fun ops hops => ?_)
  unfold Dsts at hops
  simp (maxSteps:=1000000)(dsimp:=false)(disch:=omega) only [go_sem, ia_someH, hP, h1_0, h1_1, h1_23, hops]
  repeat' ((first | refine And.intro (by omega) ?_ | fail); try (with_reducible refine stI ?_); try simp (maxSteps:=1000000)(dsimp:=false)(disch:=omega) only [go_sem, ia_someH, hP, h1_0, h1_1, h1_23, hops])
  refine hK7 _ _ ?_
  try clear hK7 K7
  refine SX.block ?_
  refine SX.live [0, 1, 5, 27, 28] (fun T2 hT2 => ?_)
  simp only [forall_mem_cons', forall_mem_nil', go_sem, ia_someH, hP, h1_0, h1_1, h1_23] at hT2
  obtain ⟨h2_0, h2_1, h2_5, h2_27, h2_28⟩ := hT2
  clear h1_0 h1_1 h1_23 T1
  refine SX.loop_k (fun (ss : (Nat) × (List Int)) T L' => (fun (i : Nat) (S : List Int) => T 0 = .int .i64 ((n / 16 ^ i : Nat) : Int) ∧ T 28 = .int .i64 (i : Int) ∧ T 1 = T2 1 ∧ T 5 = T2 5 ∧ T 27 = T2 27 ∧ L' = some (g3, .cells (ints .u8 (List.replicate (m - i) 0 ++ S)).toArray 5 (0, 0)) :: L ∧ (i ≤ m ∧ S.length = i ∧ hexF n m = hexF (n / 16 ^ i) (m - i) ++ S)) (ss.1) (ss.2)) (fun (ss : (Nat) × (List Int)) => (fun (i : Nat) (S : List Int) => m - i) (ss.1) (ss.2)) (0, []) ?_ ?_
  · try dsimp only
    refine ⟨?_, ?_, ?_, ?_, ?_, ?_, ?_⟩
    · first | exact h2_0 | (rw [h2_0]; rfl) | (rw [h2_0]; simp; done)
    · first | exact h2_28 | (rw [h2_28]; rfl) | (rw [h2_28]; simp; done)
    · rfl
    · rfl
    · rfl
    · simp [zerosV_ints]
    · exact ⟨Nat.zero_le _, rfl, by simp⟩
  · intro ss T3 L3 hI K8 hK8
    obtain ⟨i, S⟩ := ss
    try dsimp only at hI hK8
    simp only [h2_1, h2_5, h2_27] at hI hK8
    obtain ⟨h3_0, h3_28, h3_1, h3_5, h3_27, hL3, hinv⟩ := hI
    replace hL3 := hL3.symm
    subst hL3
    clear h2_0 h2_1 h2_5 h2_27 h2_28 T2
    refine SX.seq_k fun K9 hK9 => ?_
    refine SX.region_d [some 29] rfl (fun ops hops => ?_)
    unfold Dsts at hops
    simp (maxSteps:=1000000)(dsimp:=false)(disch:=omega) only [go_sem, ia_someH, hP, h3_0, h3_28, h3_1, h3_5, h3_27, hops]
    repeat' ((first | refine And.intro (by omega) ?_ | fail); try (with_reducible refine stI ?_); try simp (maxSteps:=1000000)(dsimp:=false)(disch:=omega) only [go_sem, ia_someH, hP, h3_0, h3_28, h3_1, h3_5, h3_27, hops])
    refine hK9 _ _ ?_
    try clear hK9 K9
    refine SX.seq_k fun K10 hK10 => ?_
    refine SX.cond_k fun X11 Y11 hX11 hY11 => ?_
    simp (maxSteps:=1000000)(dsimp:=false)(disch:=omega) only [go_sem, ia_someH, hP, h3_0, h3_28, h3_1, h3_5, h3_27, condVC]
    refine ⟨fun hc29 => hX11 ?_, fun hc29 => hY11 ?_⟩
    · clear hX11 hY11 X11 Y11
      refine SX.skip ?_
      try simp only [andThen_normal, andThen_ret, andThen_exit, inBlk_normal, inBlk_ret, inBlk_exit, Nat.reduceEqDiff, if_true, if_false, ↓reduceIte]
      refine hK10 _ _ ?_
      try clear hK10 K10
      refine SX.seq_k fun K12 hK12 => ?_
      refine SX.block ?_
      refine SX.seq_k fun K13 hK13 => ?_
      refine SX.region_d [some 30, some 6] rfl (fun ops hops => ?_)
      unfold Dsts at hops
      simp (maxSteps:=1000000)(dsimp:=false)(disch:=omega) only [go_sem, ia_someH, hP, h3_0, h3_28, h3_1, h3_5, h3_27, hops]
      refine hK13 _ _ ?_
      try clear hK13 K13
      refine SX.seq_k fun K14 hK14 => ?_
      have hq : n / 16 ^ i < 4294967296 := Nat.lt_of_le_of_lt (Nat.div_le_self _ _) (by have : 16 ^ m ≤ 16 ^ 4 := Nat.pow_le_pow_right (by decide) hm; omega)
      obtain ⟨b, hb, hbd⟩ := dg_at (n / 16 ^ i)
      have hix : ((m : Int) - 1 - (i : Int)).toNat = m - 1 - i := by omega
      unfold hexDg at hb
      refine SX.region_d [some 31, some 32, some 33, some 34, some 35, some 36, some 37, some 38, some 39, none] rfl (fun ops hops => ?_)
      unfold Dsts at hops
      simp (maxSteps:=1000000)(dsimp:=false)(disch:=omega) only [go_sem, ia_someH, hP, h3_0, h3_28, h3_1, h3_5, h3_27, hops, and15 _ hq, hix, hb, Option.some.injEq, exists_eq_left', hbd, ints_set]
      try with_reducible refine stI ?_
      try simp (maxSteps:=1000000)(dsimp:=false)(disch:=omega) only [go_sem, ia_someH, hP, h3_0, h3_28, h3_1, h3_5, h3_27, hops, and15 _ hq, hix, hb, Option.some.injEq, exists_eq_left', hbd, ints_set]
      refine ⟨0, _, _, _, rfl, by simp [ints]; omega, .inr (Nat.zero_le _), ?_⟩
      try with_reducible refine stI ?_
      try simp (maxSteps:=1000000)(dsimp:=false)(disch:=omega) only [go_sem, ia_someH, hP, h3_0, h3_28, h3_1, h3_5, h3_27, hops, and15 _ hq, hix, hb, Option.some.injEq, exists_eq_left', hbd, ints_set]
      refine hK14 _ _ ?_
      try clear hK14 K14
      refine SX.live [0, 1, 5, 27, 28] (fun T4 hT4 => ?_)
      simp only [forall_mem_cons', forall_mem_nil', go_sem, ia_someH, hP, h3_0, h3_28, h3_1, h3_5, h3_27] at hT4
      obtain ⟨h4_0, h4_1, h4_5, h4_27, h4_28⟩ := hT4
      clear h3_0 h3_28 h3_1 h3_5 h3_27 T3
      refine SX.region_d [some 40, some 41, some 0] rfl (fun ops hops => ?_)
      unfold Dsts at hops
      simp (maxSteps:=1000000)(dsimp:=false)(disch:=omega) only [go_sem, ia_someH, hP, h4_0, h4_1, h4_5, h4_27, h4_28, hops]
      repeat' ((first | refine And.intro (by omega) ?_ | fail); try (with_reducible refine stI ?_); try simp (maxSteps:=1000000)(dsimp:=false)(disch:=omega) only [go_sem, ia_someH, hP, h4_0, h4_1, h4_5, h4_27, h4_28, hops])
      refine hK12 _ _ ?_
      try clear hK12 K12
      refine SX.region_d [some 42, some 28] rfl (fun ops hops => ?_)
      unfold Dsts at hops
      simp (maxSteps:=1000000)(dsimp:=false)(disch:=omega) only [go_sem, ia_someH, hP, h4_0, h4_1, h4_5, h4_27, h4_28, hops]
      repeat' ((first | refine And.intro (by omega) ?_ | fail); try (with_reducible refine stI ?_); try simp (maxSteps:=1000000)(dsimp:=false)(disch:=omega) only [go_sem, ia_someH, hP, h4_0, h4_1, h4_5, h4_27, h4_28, hops])
      refine hK8 (i + 1, dg (n / 16 ^ i) :: S) _ (_) _ (by first | exact Less.refl _ | exact Less.drop _ _ | exact Less.drops (Less.drop _ _) | exact Less.drops (Less.drops (Less.drop _ _)) | exact Less.drops (Less.drops (Less.drops (Less.drop _ _))) | exact Less.drops (Less.drops (Less.drops (Less.drops (Less.drop _ _))))) ?_ ?_
      · try dsimp only
        refine ⟨?_, ?_, ?_, ?_, ?_, ?_, ?_⟩
        · simp (maxSteps:=1000000)(dsimp:=false)(disch:=omega) only [go_sem, ia_someH, hP, h4_0, h4_1, h4_5, h4_27, h4_28]
          rw [shr4', div16]
        · simp (maxSteps:=1000000)(dsimp:=false)(disch:=omega) only [go_sem, ia_someH, hP, h4_0, h4_1, h4_5, h4_27, h4_28]
          rfl
        · simp (maxSteps:=1000000)(dsimp:=false)(disch:=omega) only [go_sem, ia_someH, hP, h4_0, h4_1, h4_5, h4_27, h4_28]
        · simp (maxSteps:=1000000)(dsimp:=false)(disch:=omega) only [go_sem, ia_someH, hP, h4_0, h4_1, h4_5, h4_27, h4_28]
        · simp (maxSteps:=1000000)(dsimp:=false)(disch:=omega) only [go_sem, ia_someH, hP, h4_0, h4_1, h4_5, h4_27, h4_28]
        · rw [set_suf (by omega)]
        · refine ⟨by omega, by simp [hinv.2.1], ?_⟩
          rw [hinv.2.2, show m - i = (m - (i + 1)) + 1 by omega, hexF, div16, List.append_assoc]
          rfl
      · (try dsimp only); omega
    · clear hX11 hY11 X11 Y11
      refine SX.exit ?_
      try simp only [andThen_normal, andThen_ret, andThen_exit, inBlk_normal, inBlk_ret, inBlk_exit, Nat.reduceEqDiff, if_true, if_false, ↓reduceIte]
      refine hK6 _ _ ?_
      try clear hK6 K6
      refine SX.seq_k fun K15 hK15 => ?_
      obtain rfl : i = m := by omega
      have hS : hexF n i = S := by rw [hinv.2.2, Nat.sub_self]; rfl
      have hrow : SlI .u8 (Cell Γ (some (g3, .cells (ints .u8 (List.replicate (i - i) 0 ++ S)).toArray 5 (0, 0)) :: L)) (.slice (some ⟨g3, 0, none⟩) i i) (hexF n i) := SlI.own 0 (by rw [hS, Nat.sub_self]; rfl) (by rw [hexF_length]) (Nat.le_refl _)
      refine SX.region_d [some 43, some 44, some 4] rfl (fun ops hops => ?_)
      unfold Dsts at hops
      simp (maxSteps:=1000000)(dsimp:=false)(disch:=omega) only [go_sem, ia_someH, hP, h3_0, h3_28, h3_1, h3_5, h3_27, hops]
      refine conv_row (hP ▸ Tryd.underlying30) (hP ▸ Tryd.underlying9) (hP ▸ Tryd.underlying5) hrow (hexF_byte _ _) ?_
      try with_reducible refine stI ?_
      try simp (maxSteps:=1000000)(dsimp:=false)(disch:=omega) only [go_sem, ia_someH, hP, h3_0, h3_28, h3_1, h3_5, h3_27, hops]
      refine hK15 _ _ ?_
      try clear hK15 K15
      refine SX.ret ?_
      simp only [andThen_normal, andThen_ret, andThen_exit, inBlk_normal, inBlk_ret, inBlk_exit, Nat.reduceEqDiff, if_true, if_false, ↓reduceIte, retQ_ret]
      try simp only [res0, res1, res2, res3, stK_e, go_sem, ia_someH, hP, h3_0, h3_28, h3_1, h3_5, h3_27]
      exact ⟨_, _, Less.drop _ _, rfl, rfl, rfl⟩

/-! strings.Join -/
def stV (s : ByteArray) : List Value := [.string s]
def joinS (ss : List ByteArray) (sep : ByteArray) : ByteArray := ⟨(Lib.join (ss.map (·.data.toList)) sep.data.toList).toArray⟩
theorem Join_spec {Γ : Ctx} (hP : Γ.P = Tryd.prog) {L : Hp} {i : Nat} {v : Value} {ss : List ByteArray} {sep : ByteArray} {s : Slot} (hi : L[i]? = some s) (hr : RowL stV 9 1 v ss s) (hN : ss.length ≤ 1000) (hlen : (Lib.join (ss.map (·.data.toList)) sep.data.toList).length ≤ 140737488355328) :
    SCall Γ 48 #[v, .string sep] L (fun v' L' => v' = .string (joinS ss sep) ∧ L' = L) := by
  rcases Nat.eq_zero_or_pos ss.length with h0 | h0
  · have hs : ss = [] := List.length_eq_zero_iff.1 h0
    subst hs
    obtain ⟨A, c, rfl, _, _⟩ := Row.form hr
    exact SCall.of_calls_eq fun w hw => by rw [hP]; exact Tryd.strings_Join_none A c sep w
  · obtain ⟨g, cap, junk, rfl, rfl, hc, hl⟩ := RowL.form hr h0
    refine SCall.of_below fun w hw => ?_
    rw [hP]
    have hb := hw.blk g _ (List.mem_of_getElem? hi)
    refine Tryd.strings_Join g 0 cap ss sep w (fun j x hj => ?_) (hw.lt (List.mem_of_getElem? hi)) (by omega) hc.1 hlen
    rw [Nat.zero_add]
    refine (Cell.at i hi (xs := ss.flatMap stV ++ junk) (off := j) (v := .string x) ?_).real hw
    have hj' := (List.getElem?_eq_some_iff.1 hj).1
    have hlen2 : (ss.flatMap stV).length = ss.length := by rw [flat_len (sz := 1) (fun _ => rfl), Nat.mul_one]
    rw [List.getElem?_append_left (by rw [hlen2]; exact hj')]
    have := flat_at (f := stV) (sz := 1) (fun _ => rfl) hj (k := 0) (by decide)
    rw [Nat.mul_one, Nat.add_zero] at this
    rw [this]; rfl

end Go.Proofs.YtcenlgofldnfcaaDoor
