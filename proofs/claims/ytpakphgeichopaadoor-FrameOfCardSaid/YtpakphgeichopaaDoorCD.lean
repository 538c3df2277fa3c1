/- A part of a proof: contracts and plain facts that it stands on. -/
import Derived.Test.YtpakphgeichopaaDoorCC
import Derived.HandedShaped
import Derived.Scope
set_option linter.unusedVariables false
set_option linter.unusedSimpArgs false
/-! The words of the walk, so said that what follows is looked at once only. -/
universe u
namespace Go.SX
open Go.RowKit
abbrev Dm (_ : Prop) : Type := Unit
def dm (p : Prop) : Dm p := ()
/-- What is not looked at before it is asked for. -/
def stK (p : Prop) (_ : Dm p) : Prop := p
theorem stI {p : Prop} {x : Dm p} (h : p) : stK p x := h
theorem stK_e {p : Prop} {x : Dm p} : stK p x = p := Classical.byContradiction fun h => h rfl
abbrev st (p : Prop) : Prop := stK p (dm p)
/-- What an option's value brings. -/
def oM {α : Type} (o : Option α) (s : α → Prop) (n : Prop) : Prop := match o with | some a => s a | none => n
theorem oM_some {α : Type} (a : α) (s : α → Prop) (n : Prop) : oM (some a) s n = s a := rfl
theorem oM_none {α : Type} (s : α → Prop) (n : Prop) : oM none s n = n := rfl
def gB (v : Value) (want : Bool) (Y N F : Prop) : Prop := match v with | .bool b => if b = want then Y else N | _ => F
theorem gB_bool (b want : Bool) (Y N F : Prop) : gB (.bool b) want Y N F = if b = want then Y else N := rfl
def strD (o : Option TypeDesc) (Y D : Prop) : Prop := match o with | some .string => Y | _ => D
theorem strD_string (Y D : Prop) : strD (some .string) Y D = Y := rfl
def boxVC (v : Value) (t : TypeId) (L : Hp) (K : Value → Hp → Prop) : Prop := ∀ b, K (.pointer (some ⟨b, 0, none⟩)) (some (b, .cells v.cells t (0, 0)) :: L)
theorem box_e (v : Value) (t : TypeId) (L : Hp) (K : Value → Hp → Prop) : boxVC v t L K = ∀ b, stK (K (.pointer (some ⟨b, 0, none⟩)) (some (b, .cells v.cells t (0, 0)) :: L)) () := rfl
def bsVC (Γ : Ctx) (t : TypeId) (len : Nat) (parts : List (Nat × Value)) (size : Nat) (L : Hp) (K : Value → Hp → Prop) (D : Prop) : Prop :=
  oM (elS Γ.P t) (fun p => (inOrd p.2.1 0 parts = true ∧ size = len ∧ len * p.2.1 ≤ 16777216 ∧ (zr Γ.P p.1).map List.length = some p.2.1) ∧ ∀ b, K (.slice (some ⟨b, 0, none⟩) len len) (some (b, .cells (catV parts).toArray p.1 (0, 0)) :: L)) D
theorem bs_e (Γ : Ctx) (t : TypeId) (len : Nat) (parts : List (Nat × Value)) (size : Nat) (L : Hp) (K : Value → Hp → Prop) (D : Prop) : bsVC Γ t len parts size L K D =
  oM (elS Γ.P t) (fun p => (inOrd p.2.1 0 parts = true ∧ size = len ∧ len * p.2.1 ≤ 16777216 ∧ (zr Γ.P p.1).map List.length = some p.2.1) ∧ ∀ b, stK (K (.slice (some ⟨b, 0, none⟩) len len) (some (b, .cells (catV parts).toArray p.1 (0, 0)) :: L)) ()) D := rfl
def cvD (u : TypeDesc) (P : Program) (str : ByteArray) (L : Hp) (K2 : Value → Hp → Prop) (D : Prop) : Prop := match u with
  | .slice e => P.underlying e = some (.int .u8) ∧ ∀ b cap, str.size ≤ cap → K2 (.slice (some ⟨b, 0, none⟩) str.size cap) (some (b, .cells (bytesV str ++ List.replicate (cap - str.size) (Value.int .u8 0)).toArray e (cap, cap + 1)) :: L)
  | .string => K2 (.string str) L
  | _ => D
theorem cvD_slice (e : TypeId) (P : Program) (str : ByteArray) (L : Hp) (K2 : Value → Hp → Prop) (D : Prop) : cvD (.slice e) P str L K2 D = (P.underlying e = some (.int .u8) ∧ ∀ b cap, str.size ≤ cap → stK (K2 (.slice (some ⟨b, 0, none⟩) str.size cap) (some (b, .cells (bytesV str ++ List.replicate (cap - str.size) (Value.int .u8 0)).toArray e (cap, cap + 1)) :: L)) ()) := rfl
theorem cvD_string (P : Program) (str : ByteArray) (L : Hp) (K2 : Value → Hp → Prop) (D : Prop) : cvD .string P str L K2 D = K2 (.string str) L := rfl
def evP (T : Env) : List (Nat × Operand) → List (Nat × Value)
  | [] => []
  | p :: r => (p.1, ev T p.2) :: evP T r
theorem evP_map (T : Env) (l : List (Nat × Operand)) : (l.map fun p => (p.1, ev T p.2)) = evP T l := by
  induction l with
  | nil => rfl
  | cons p r ih => rw [List.map_cons, ih]; rfl
theorem evP_nil (T : Env) : evP T [] = [] := rfl
theorem evP_cons (T : Env) (p : Nat × Operand) (r : List (Nat × Operand)) : evP T (p :: r) = (p.1, ev T p.2) :: evP T r := rfl
def fillK (place : Nat → Option (Nat × Nat)) (cells : List Value) (parts : List (Nat × Value)) (K : List Value → Prop) (D : Prop) : Prop := match fillL place cells parts with | some cs => K cs | none => D
theorem fillK_nil (place : Nat → Option (Nat × Nat)) (cells : List Value) (K : List Value → Prop) (D : Prop) : fillK place cells [] K D = K cells := rfl
theorem fillK_cons (place : Nat → Option (Nat × Nat)) (cells : List Value) (i : Nat) (v : Value) (rest : List (Nat × Value)) (K : List Value → Prop) (D : Prop) :
    fillK place cells ((i, v) :: rest) K D = oM (place i) (fun p => if v.cells.size = p.2 ∧ p.1 + p.2 ≤ cells.length then fillK place (setN cells p.1 v.cells.toList) rest K D else D) D := by
  unfold fillK oM
  rw [fillL]
  cases place i with
  | none => rfl
  | some p =>
    obtain ⟨off, size⟩ := p
    dsimp only
    by_cases h : v.cells.size = size ∧ off + size ≤ cells.length
    · rw [if_pos h, if_pos h]
    · rw [if_neg h, if_neg h]
def intD (o : TypeDesc) (K : IntKind → Prop) (D : Prop) : Prop := match o with | .int k => K k | _ => D
theorem intD_int (k : IntKind) (K : IntKind → Prop) (D : Prop) : intD (.int k) K D = K k := rfl
section
variable {Γ : Ctx} {P : Program} {n : Nat} {ops : Array Oper} {T : Env} {L : Hp} {t s d : TypeId} {k k' : IntKind} {a b : Int} {D : Prop} {ad : Addr}
variable {D2 : Prop} {K : Value → Prop} {K2 : Value → Hp → Prop} {K3 : Hp → Prop} {yes no : Env → Prop} {dst : Option Tmp} {ty : TypeId} {ps : String} {af : Array Edge} {g : Option (Nat × Bool)}
theorem guard_none : guardVC ops none T yes no = yes T := rfl
theorem guard_some (j : Nat) (want : Bool) : guardVC ops (some (j, want)) T yes no = oM ((ops.toList[j]?).bind (·.dst)) (fun d => gB (T d) want (yes (upd T d (.bool want))) (no (upd T d (.bool (!want)))) (no T)) (no T) := by
  unfold guardVC oM gB
  dsimp only
  cases (ops.toList[j]?).bind (·.dst) <;> rfl
theorem put_none (v : Value) (k : Env → Prop) : putVC n none v T k = k T := rfl
theorem put_some (d : Nat) (v : Value) (k : Env → Prop) : putVC n (some d) v T k = (d < n ∧ k (upd T d v)) := rfl
theorem plan_nil {G : Hp → Hp} {Q : Env → Hp → Prop} : VCplan Γ n ops G [] Q T L = Q T L := rfl
theorem plan_q {G : Hp → Hp} {Q : Env → Hp → Prop} (i : Nat) (r : List (Nat × Kd)) : VCplan Γ n ops G ((i, .q) :: r) Q T L = oM (ops.toList[i]?) (fun o => guardVC ops o.guard T (fun T => VQ Γ o T (G L) (fun v => putVC n o.dst v T (fun T => VCplan Γ n ops G r Q T L))) (fun T => putVC n o.dst undef T (fun T => VCplan Γ n ops G r Q T L))) False := by
  unfold oM; rw [VCplan]; cases ops.toList[i]? <;> rfl
theorem plan_c {G : Hp → Hp} {Q : Env → Hp → Prop} (i : Nat) (r : List (Nat × Kd)) : VCplan Γ n ops G ((i, .c) :: r) Q T L = oM (ops.toList[i]?) (fun o => guardVC ops o.guard T (fun T => ∃ v, (∀ L0, Less L0 (G L) → VC Γ o T L0 (fun u L1 => u = v ∧ L1 = L0)) ∧ putVC n o.dst v T (fun T => VCplan Γ n ops G r Q T L)) (fun T => putVC n o.dst undef T (fun T => VCplan Γ n ops G r Q T L))) False := by
  unfold oM; rw [VCplan]; cases ops.toList[i]? <;> rfl
theorem plan_e {G : Hp → Hp} {Q : Env → Hp → Prop} (i : Nat) (r : List (Nat × Kd)) : VCplan Γ n ops G ((i, .e) :: r) Q T L = oM (ops.toList[i]?) (fun o => guardVC ops o.guard T (fun T => VC Γ o T L (fun v L' => putVC n o.dst v T (fun T => (Less L' (G L') ∧ Less (G L') (G L)) ∧ VCplan Γ n ops G r Q T L'))) (fun T => putVC n o.dst undef T (fun T => VCplan Γ n ops G r Q T L))) False := by
  unfold oM; rw [VCplan]; cases ops.toList[i]? <;> rfl
theorem plan_t {G : Hp → Hp} {Q : Env → Hp → Prop} (i : Nat) (r : List (Nat × Kd)) : VCplan Γ n ops G ((i, .t) :: r) Q T L = oM (ops.toList[i]?) (fun o => guardVC ops o.guard T (fun T => VC Γ o T L (fun v L' => putVC n o.dst v T (fun T => VCplan Γ n ops G r Q T L'))) (fun T => putVC n o.dst undef T (fun T => VCplan Γ n ops G r Q T L))) False := by
  unfold oM; rw [VCplan]; cases ops.toList[i]? <;> rfl
/-! one operation, quiet -/
theorem VQ_move (x : Operand) : VQ Γ ⟨dst, .move x, ty, ps, af, g⟩ T L K = K (ev T x) := rfl
theorem VC_move (x : Operand) : VC Γ ⟨dst, .move x, ty, ps, af, g⟩ T L K2 = (fun v => K2 v L) (ev T x) := rfl
theorem VQ_assign (x : Operand) : VQ Γ ⟨dst, .assign x, ty, ps, af, g⟩ T L K = K (ev T x) := rfl
theorem VC_assign (x : Operand) : VC Γ ⟨dst, .assign x, ty, ps, af, g⟩ T L K2 = (fun v => K2 v L) (ev T x) := rfl
theorem VQ_pick (c x y : Operand) : VQ Γ ⟨dst, .pick c x y, ty, ps, af, g⟩ T L K = pickVC (ev T c) (ev T x) (ev T y) K False := rfl
theorem VC_pick (c x y : Operand) : VC Γ ⟨dst, .pick c x y, ty, ps, af, g⟩ T L K2 = pickVC (ev T c) (ev T x) (ev T y) (fun v => K2 v L) False := rfl
theorem VQ_load (e : TypeId) (x : Operand) : VQ Γ ⟨dst, .load e x, ty, ps, af, g⟩ T L K = ldVC Γ e (ev T x) L K False := rfl
theorem VC_load (e : TypeId) (x : Operand) : VC Γ ⟨dst, .load e x, ty, ps, af, g⟩ T L K2 = ldVC Γ e (ev T x) L (fun v => K2 v L) False := rfl
theorem VQ_nilCheck (x : Operand) : VQ Γ ⟨dst, .nilCheck x, ty, ps, af, g⟩ T L K = nilVC (ev T x) K False := rfl
theorem VC_nilCheck (x : Operand) : VC Γ ⟨dst, .nilCheck x, ty, ps, af, g⟩ T L K2 = nilVC (ev T x) (fun v => K2 v L) False := rfl
theorem VQ_unOp (op : UnOp) (e : TypeId) (x : Operand) : VQ Γ ⟨dst, .unOp op e x, ty, ps, af, g⟩ T L K = unVC op (ev T x) K False := rfl
theorem VC_unOp (op : UnOp) (e : TypeId) (x : Operand) : VC Γ ⟨dst, .unOp op e x, ty, ps, af, g⟩ T L K2 = unVC op (ev T x) (fun v => K2 v L) False := rfl
theorem VQ_binOp (op : BinOp) (e e2 : TypeId) (x y : Operand) : VQ Γ ⟨dst, .binOp op e x y e2, ty, ps, af, g⟩ T L K = binVC Γ.P op e (ev T x) (ev T y) K (YieldsQ Γ ⟨dst, .binOp op e x y e2, ty, ps, af, g⟩ T L K) := rfl
theorem VC_binOp (op : BinOp) (e e2 : TypeId) (x y : Operand) : VC Γ ⟨dst, .binOp op e x y e2, ty, ps, af, g⟩ T L K2 = binVC Γ.P op e (ev T x) (ev T y) (fun v => K2 v L) (YieldsQ Γ ⟨dst, .binOp op e x y e2, ty, ps, af, g⟩ T L (fun v => K2 v L)) := rfl
theorem VQ_makeFunc (fn : Fn) (x y : Array Operand) : VQ Γ ⟨dst, .makeFunc fn x y, ty, ps, af, g⟩ T L K = K (.func fn (x.map (ev T)) (y.map (ev T))) := rfl
theorem VC_makeFunc (fn : Fn) (x y : Array Operand) : VC Γ ⟨dst, .makeFunc fn x y, ty, ps, af, g⟩ T L K2 = (fun v => K2 v L) (.func fn (x.map (ev T)) (y.map (ev T))) := rfl
theorem VQ_fieldAddr (e : TypeId) (x : Operand) (f : Nat) : VQ Γ ⟨dst, .fieldAddr e x f, ty, ps, af, g⟩ T L K = faVC Γ.P e (ev T x) f K False := rfl
theorem VC_fieldAddr (e : TypeId) (x : Operand) (f : Nat) : VC Γ ⟨dst, .fieldAddr e x f, ty, ps, af, g⟩ T L K2 = faVC Γ.P e (ev T x) f (fun v => K2 v L) False := rfl
theorem VQ_field (e : TypeId) (x : Operand) (f : Nat) : VQ Γ ⟨dst, .field e x f, ty, ps, af, g⟩ T L K = fieldVC Γ.P e (ev T x) f K False := rfl
theorem VC_field (e : TypeId) (x : Operand) (f : Nat) : VC Γ ⟨dst, .field e x f, ty, ps, af, g⟩ T L K2 = fieldVC Γ.P e (ev T x) f (fun v => K2 v L) False := rfl
theorem VQ_indexAddr (e : TypeId) (x y : Operand) : VQ Γ ⟨dst, .indexAddr e x y, ty, ps, af, g⟩ T L K = indexAddrVC Γ.P e (ev T x) (ev T y) K False := rfl
theorem VC_indexAddr (e : TypeId) (x y : Operand) : VC Γ ⟨dst, .indexAddr e x y, ty, ps, af, g⟩ T L K2 = indexAddrVC Γ.P e (ev T x) (ev T y) (fun v => K2 v L) False := rfl
theorem VQ_index (e : TypeId) (x y : Operand) : VQ Γ ⟨dst, .index e x y, ty, ps, af, g⟩ T L K = indexVC Γ.P e (ev T x) (ev T y) K False := rfl
theorem VC_index (e : TypeId) (x y : Operand) : VC Γ ⟨dst, .index e x y, ty, ps, af, g⟩ T L K2 = indexVC Γ.P e (ev T x) (ev T y) (fun v => K2 v L) False := rfl
theorem VQ_slice (e : TypeId) (x : Operand) (lo hi mx : Option Operand) : VQ Γ ⟨dst, .slice e x lo hi mx, ty, ps, af, g⟩ T L K = sliceVC Γ.P e (ev T x) (lo.map (ev T)) (hi.map (ev T)) (mx.map (ev T)) K False := rfl
theorem VC_slice (e : TypeId) (x : Operand) (lo hi mx : Option Operand) : VC Γ ⟨dst, .slice e x lo hi mx, ty, ps, af, g⟩ T L K2 = sliceVC Γ.P e (ev T x) (lo.map (ev T)) (hi.map (ev T)) (mx.map (ev T)) (fun v => K2 v L) False := rfl
theorem VQ_extract (x : Operand) (i : Nat) : VQ Γ ⟨dst, .extract x i, ty, ps, af, g⟩ T L K = extVC (ev T x) i K False := rfl
theorem VC_extract (x : Operand) (i : Nat) : VC Γ ⟨dst, .extract x i, ty, ps, af, g⟩ T L K2 = extVC (ev T x) i (fun v => K2 v L) False := rfl
theorem VQ_build (e : TypeId) (parts : List (Nat × Operand)) : VQ Γ ⟨dst, .build e parts.toArray, ty, ps, af, g⟩ T L K = buildVC Γ.P e (evP T parts) K False := by rw [← evP_map]; rfl
theorem VC_build (e : TypeId) (parts : List (Nat × Operand)) : VC Γ ⟨dst, .build e parts.toArray, ty, ps, af, g⟩ T L K2 = buildVC Γ.P e (evP T parts) (fun v => K2 v L) False := by rw [← evP_map]; rfl
theorem VQ_lookup (e : TypeId) (x y : Operand) (ok : Bool) : VQ Γ ⟨dst, .lookup e x y ok, ty, ps, af, g⟩ T L K = lkVC Γ e (ev T x) (ev T y) ok L K False := rfl
theorem VC_lookup (e : TypeId) (x y : Operand) (ok : Bool) : VC Γ ⟨dst, .lookup e x y ok, ty, ps, af, g⟩ T L K2 = lkVC Γ e (ev T x) (ev T y) ok L (fun v => K2 v L) False := rfl
theorem VQ_len (x : Operand) (e : TypeId) : VQ Γ ⟨dst, .call ⟨.builtin .len, #[x], #[e]⟩, ty, ps, af, g⟩ T L K = lenVC Γ.P e (ev T x) K False := rfl
theorem VC_len (x : Operand) (e : TypeId) : VC Γ ⟨dst, .call ⟨.builtin .len, #[x], #[e]⟩, ty, ps, af, g⟩ T L K2 = lenVC Γ.P e (ev T x) (fun v => K2 v L) False := rfl
theorem VQ_cap (x : Operand) (e : TypeId) : VQ Γ ⟨dst, .call ⟨.builtin .cap, #[x], #[e]⟩, ty, ps, af, g⟩ T L K = capVC Γ.P e (ev T x) K False := rfl
theorem VC_cap (x : Operand) (e : TypeId) : VC Γ ⟨dst, .call ⟨.builtin .cap, #[x], #[e]⟩, ty, ps, af, g⟩ T L K2 = capVC Γ.P e (ev T x) (fun v => K2 v L) False := rfl
theorem VQ_min (x y : Operand) (ts : Array TypeId) : VQ Γ ⟨dst, .call ⟨.builtin .min, #[x, y], ts⟩, ty, ps, af, g⟩ T L K = minVC (ev T x) (ev T y) K False := rfl
theorem VC_min (x y : Operand) (ts : Array TypeId) : VC Γ ⟨dst, .call ⟨.builtin .min, #[x, y], ts⟩, ty, ps, af, g⟩ T L K2 = minVC (ev T x) (ev T y) (fun v => K2 v L) False := rfl
theorem VQ_max (x y : Operand) (ts : Array TypeId) : VQ Γ ⟨dst, .call ⟨.builtin .max, #[x, y], ts⟩, ty, ps, af, g⟩ T L K = maxVC (ev T x) (ev T y) K False := rfl
theorem VC_max (x y : Operand) (ts : Array TypeId) : VC Γ ⟨dst, .call ⟨.builtin .max, #[x, y], ts⟩, ty, ps, af, g⟩ T L K2 = maxVC (ev T x) (ev T y) (fun v => K2 v L) False := rfl
theorem VQ_convert (e e2 : TypeId) (x : Operand) : VQ Γ ⟨dst, .convert e e2 x, ty, ps, af, g⟩ T L K = convVC Γ e e2 (ev T x) L K (YieldsQ Γ ⟨dst, .convert e e2 x, ty, ps, af, g⟩ T L K) := rfl
theorem VQ_call (f : Operand) (as_ : Array Operand) (ts : Array TypeId) : VQ Γ ⟨dst, .call ⟨.value f, as_, ts⟩, ty, ps, af, g⟩ T L K = qcallVC Γ (ev T f) (as_.map (ev T)) L K False := rfl
/-! one operation -/
theorem VC_alloc (e : TypeId) : VC Γ ⟨dst, .alloc e, ty, ps, af, g⟩ T L K2 = oM (zr Γ.P e) (fun z => ∀ b, stK (K2 (.pointer (some ⟨b, 0, none⟩)) (some (b, .cells z.toArray e (0, 0)) :: L)) ()) (Yields Γ ⟨dst, .alloc e, ty, ps, af, g⟩ T L K2) := by
  simp only [stK_e]
  unfold VC oM
  dsimp only
  cases zr Γ.P e <;> rfl
theorem VC_box (e : TypeId) (x : Operand) : VC Γ ⟨dst, .box e x, ty, ps, af, g⟩ T L K2 = boxVC (ev T x) e L K2 := rfl
theorem VC_store (e : TypeId) (x y : Operand) : VC Γ ⟨dst, .store e x y, ty, ps, af, g⟩ T L K2 = stVC Γ e (ev T x) (ev T y) L (K2 undef) False := rfl
theorem VC_buildSlice (e : TypeId) (len : Nat) (parts : List (Nat × Operand)) : VC Γ ⟨dst, .buildSlice e len parts.toArray, ty, ps, af, g⟩ T L K2 = bsVC Γ e len (evP T parts) parts.length L K2 (Yields Γ ⟨dst, .buildSlice e len parts.toArray, ty, ps, af, g⟩ T L K2) := by
  rw [← evP_map]
  unfold VC bsVC oM
  dsimp only
  cases elS Γ.P e <;> simp
theorem VC_makeSlice (e : TypeId) (x y : Operand) : VC Γ ⟨dst, .makeSlice e x y, ty, ps, af, g⟩ T L K2 = mkVC Γ e (ev T x) (ev T y) L K2 False := rfl
theorem VC_range (e : TypeId) (x : Operand) : VC Γ ⟨dst, .range e x, ty, ps, af, g⟩ T L K2 = rgVC Γ e (ev T x) L K2 False := rfl
theorem VC_next (x : Operand) : VC Γ ⟨dst, .next x true, ty, ps, af, g⟩ T L K2 = nxVC (ev T x) L K2 False := rfl
theorem VC_makeMap (e : TypeId) : VC Γ ⟨dst, .makeMap e none, ty, ps, af, g⟩ T L K2 = ∀ b, stK (K2 (.map (some b)) (some (b, .map #[] 0) :: L)) () := rfl
theorem VC_mapUpdate (e : TypeId) (m x y : Operand) : VC Γ ⟨dst, .mapUpdate e m x y, ty, ps, af, g⟩ T L K2 = muVC Γ e (ev T m) (ev T x) (ev T y) L (K2 undef) False := rfl
theorem VC_insert (e : TypeId) (m x y : Operand) : VC Γ ⟨dst, .insert e m x y, ty, ps, af, g⟩ T L K2 = muVC Γ e (ev T m) (ev T x) (ev T y) L (K2 undef) False := rfl
theorem VC_convert (e e2 : TypeId) (x : Operand) : VC Γ ⟨dst, .convert e e2 x, ty, ps, af, g⟩ T L K2 = cvVC Γ e e2 (ev T x) L K2 False (VQ Γ ⟨dst, .convert e e2 x, ty, ps, af, g⟩ T L (fun v => K2 v L)) := rfl
theorem VC_append (x y : Operand) (tx ty2 : TypeId) : VC Γ ⟨dst, .call ⟨.builtin .append, #[x, y], #[tx, ty2]⟩, ty, ps, af, g⟩ T L K2 = YAppend Γ tx ty2 (ev T x) (ev T y) L (fun v L => stK (K2 v L) ()) := rfl
theorem VC_copy (x y : Operand) (tx ty2 : TypeId) : VC Γ ⟨dst, .call ⟨.builtin .copy, #[x, y], #[tx, ty2]⟩, ty, ps, af, g⟩ T L K2 = YCopy Γ tx ty2 (ev T x) (ev T y) L (fun v L => stK (K2 v L) ()) := rfl
theorem VC_call (f : Operand) (as_ : Array Operand) (ts : Array TypeId) : VC Γ ⟨dst, .call ⟨.value f, as_, ts⟩, ty, ps, af, g⟩ T L K2 = callVC Γ (ev T f) (as_.map (ev T)) L K2 False := rfl
/-! the parts -/
theorem loadVC_e : loadVC Γ t L ad K = oM (szA Γ.P t) (fun p => if p.2 = true then loadN Γ L ad 0 p.1 [] (fun v => stK (K v) ()) else ∃ v, Cell Γ L ad v ∧ stK (K v) ()) False := by
  simp only [stK_e]
  unfold loadVC oM
  split <;> rename_i h <;> rw [h] <;> simp
theorem part_e (ag : Bool) (sz : Nat) (cs : Array Value) (off : Nat) : partVC ag sz cs off K = if ag = true then K (.agg (cs.toList.drop off |>.take sz).toArray) else oM (cs.toList[off]?) K False := by
  unfold partVC oM
  cases ag
  · cases h : cs.toList[off]? <;> simp
  · rfl
theorem fa_e (f : Nat) : faVC P t (.pointer (some ad)) f K D = oM (lay P t) (fun l => oM l[f]? (fun p => p.2.1 ≠ 0 ∧ K (.pointer (some (ad.add p.1)))) D) D := by
  unfold faVC oM
  cases lay P t with
  | none => rfl
  | some l => cases h : l[f]? <;> simp [h]
theorem field_e (cs : Array Value) (f : Nat) : fieldVC P t (.agg cs) f K D = oM (lay P t) (fun l => oM l[f]? (fun p => partVC p.2.2 p.2.1 cs p.1 K) D) D := by
  unfold fieldVC oM
  cases lay P t with
  | none => rfl
  | some l => cases h : l[f]? <;> simp [h]
theorem index_e (cs : Array Value) : indexVC P t (.agg cs) (.int k a) K D = oM (elA P t) (fun p => (0 ≤ a ∧ a < p.1) ∧ partVC p.2.2.2 p.2.2.1 cs (a.toNat * p.2.2.1) K) D := by
  unfold indexVC oM
  cases elA P t <;> rfl
theorem ext_e (vs : Array Value) (i : Nat) : extVC (.tuple vs) i K D = oM (vs.toList[i]?) K False := by
  unfold extVC oM
  dsimp only
  cases vs.toList[i]? <;> simp
theorem ia_some (len cap : Nat) : indexAddrVC P t (.slice (some ad) len cap) (.int k a) K D = oM (elS P t) (fun p => (0 ≤ a ∧ a < len) ∧ K (.pointer (some (ad.add (a.toNat * p.2.1))))) D := by
  unfold indexAddrVC oM
  cases elS P t <;> simp
theorem ia_any (base : Option Addr) (len cap : Nat) : indexAddrVC P t (.slice base len cap) (.int k a) K D = oM (elS P t) (fun p => (0 ≤ a ∧ a < len) ∧ ∃ ad, base = some ad ∧ stK (K (.pointer (some (ad.add (a.toNat * p.2.1))))) ()) D := by
  simp only [stK_e]
  unfold indexAddrVC oM
  cases elS P t <;> rfl
theorem ia_ptr : indexAddrVC P t (.pointer (some ad)) (.int k a) K D = oM (elA P t) (fun p => (0 ≤ a ∧ a < p.1) ∧ K (.pointer (some (ad.add (a.toNat * p.2.2.1))))) D := by
  unfold indexAddrVC oM
  cases elA P t <;> rfl
theorem conv_e : convVC Γ s d (.int k a) L K D = oM (Γ.P.underlying s) (fun _ => oM (Γ.P.underlying d) (fun u => intD u (fun k => K (.int k (k.wrap a))) D) D) D := by
  unfold convVC oM intD
  cases Γ.P.underlying s with
  | none => rfl
  | some x => cases hd : Γ.P.underlying d with
    | none => rfl
    | some y => cases y <;> rfl
theorem sl_str (st : ByteArray) (lo hi : Option Value) : sliceVC P t (.string st) lo hi none K D = oM (optI 0 lo) (fun l => oM (optI st.size hi) (fun h => strD (P.underlying t) ((0 ≤ l ∧ l ≤ h ∧ h ≤ st.size) ∧ K (.string (st.extract l.toNat h.toNat))) D) D) D := by
  unfold sliceVC oM strD
  dsimp only
  cases h1 : P.underlying t with
  | none => cases optI 0 lo <;> cases optI (↑st.size) hi <;> rfl
  | some u => cases u <;> cases optI 0 lo <;> cases optI (↑st.size) hi <;> rfl
theorem sl_sl (base : Option Addr) (len cap : Nat) (lo hi : Option Value) : sliceVC P t (.slice base len cap) lo hi none K D = oM (elS P t) (fun p => oM (optI 0 lo) (fun l => oM (optI len hi) (fun h => ((hi.isSome = true ∨ len ≤ cap) ∧ 0 ≤ l ∧ l ≤ h ∧ h ≤ cap) ∧ K (.slice (cutA base p.2.1 cap l.toNat) (h.toNat - l.toNat) (cap - l.toNat))) D) D) D := by
  unfold sliceVC oM
  dsimp only
  cases elS P t <;> cases optI 0 lo <;> cases optI (↑len) hi <;> rfl
theorem sl_arr0 (lo : Option Value) : sliceVC P t (.pointer (some ad)) lo none none K D = oM (elA P t) (fun p => oM (optI 0 lo) (fun l => (0 ≤ l ∧ l ≤ p.1) ∧ K (.slice (cutA (some ad) p.2.2.1 p.1 l.toNat) (p.1 - l.toNat) (p.1 - l.toNat))) D) D := by
  unfold sliceVC oM
  dsimp only
  cases elA P t <;> cases optI 0 lo <;> rfl
theorem sl_arr1 (lo : Option Value) (h : Int) : sliceVC P t (.pointer (some ad)) lo (some (.int k h)) none K D = oM (elA P t) (fun p => oM (optI 0 lo) (fun l => (0 ≤ l ∧ l ≤ h ∧ h ≤ p.1) ∧ K (.slice (cutA (some ad) p.2.2.1 p.1 l.toNat) (h.toNat - l.toNat) (p.1 - l.toNat))) D) D := by
  unfold sliceVC oM
  dsimp only
  cases elA P t <;> cases optI 0 lo <;> rfl
theorem build_e (parts : List (Nat × Value)) : buildVC P t parts K D = oM (lay P t) (fun l => oM (zr P t) (fun z => fillK (placeL l) z parts (fun cs => K (.agg cs.toArray)) D) D) (oM (elA P t) (fun p => oM (zr P t) (fun z => fillK (fun i => some (i * p.2.2.1, p.2.2.1)) z parts (fun cs => K (.agg cs.toArray)) D) D) D) := by
  unfold buildVC oM fillK
  cases h1 : lay P t with
  | none => cases h2 : elA P t with
    | none => cases zr P t <;> rfl
    | some p => cases h3 : zr P t with
      | none => rfl
      | some z => cases h4 : fillL (fun i => some (i * p.2.2.1, p.2.2.1)) z parts <;> simp [h4]
  | some l => cases h3 : zr P t with
    | none => cases h2 : elA P t <;> rfl
    | some z => cases h4 : fillL (placeL l) z parts <;> simp [h4]
theorem mk_e : mkVC Γ t (.int k a) (.int k' b) L K2 D = oM (elS Γ.P t) (fun p => oM (zr Γ.P p.1) (fun z => (0 ≤ a ∧ a ≤ b ∧ b * p.2.2 ≤ 281474976710656 ∧ b ≤ 9223372036854775807 ∧ z.length = p.2.1) ∧ ∀ bk, stK (K2 (.slice (some ⟨bk, 0, none⟩) a.toNat b.toNat) (some (bk, .cells (zerosV z b.toNat).toArray p.1 (0, 0)) :: L)) ()) D) D := by
  simp only [stK_e]
  unfold mkVC oM
  cases h : elS Γ.P t with
  | none => rfl
  | some p => cases h2 : zr Γ.P p.1 <;> simp [h2]
theorem cv_e (s d : TypeId) (str : ByteArray) : cvVC Γ s d (.string str) L K2 D D2 = oM (Γ.P.underlying s) (fun _ => oM (Γ.P.underlying d) (fun u => cvD u Γ.P str L K2 D) D) D := by
  unfold cvVC oM cvD
  cases Γ.P.underlying s with
  | none => rfl
  | some x => cases hd : Γ.P.underlying d with
    | none => rfl
    | some y => cases y <;> rfl
end
section
variable {Γ : Ctx} {P : Program} {n : Nat} {ops : Array Oper} {T : Env} {L : Hp} {t : TypeId} {k : IntKind} {a : Int} {K : Value → Prop} {K2 : Value → Hp → Prop} {K3 : Hp → Prop} {D : Prop} {ad : Addr}
theorem ops_nil {Q : Env → Hp → Prop} : VCops Γ n ops [] Q T L = Q T L := rfl
theorem ops_cons {Q : Env → Hp → Prop} (o : Oper) (r : List Oper) : VCops Γ n ops (o :: r) Q T L = guardVC ops o.guard T (fun T => VC Γ o T L (fun v L => putVC n o.dst v T (fun T => VCops Γ n ops r Q T L))) (fun T => putVC n o.dst undef T (fun T => VCops Γ n ops r Q T L)) := rfl
theorem qops_nil {Q : Env → Prop} : VQops Γ n ops L [] Q T = Q T := rfl
theorem qops_cons {Q : Env → Prop} (o : Oper) (r : List Oper) : VQops Γ n ops L (o :: r) Q T = guardVC ops o.guard T (fun T => VQ Γ o T L (fun v => putVC n o.dst v T (fun T => VQops Γ n ops L r Q T))) (fun T => putVC n o.dst undef T (fun T => VQops Γ n ops L r Q T)) := rfl
theorem ld_e : ldVC Γ t (.pointer (some ad)) L K D = loadVC Γ t L ad K := rfl
theorem st_e (v : Value) : stVC Γ t (.pointer (some ad)) v L K3 D = storeVC Γ t ad v L K3 := rfl
theorem call_e (f : FuncId) (fi ca as_ : Array Value) : callVC Γ (.func (.func f) fi ca) as_ L K2 D = (callable Γ.P f = true ∧ SCall Γ f ((fi ++ as_ ++ ca)) L (fun v L => stK (K2 v L) ())) := rfl
theorem qcall_e (f : FuncId) (fi ca as_ : Array Value) : qcallVC Γ (.func (.func f) fi ca) as_ L K D = (callable Γ.P f = true ∧ ∃ v, SCall Γ f ((fi ++ as_ ++ ca)) L (fun v' L' => v' = v ∧ L' = L) ∧ stK (K v) ()) := rfl
theorem eqla_e {k : TypeId} (x y : Array Value) : binVC P .eql k (.agg x) (.agg y) K D = aggEq P k x y (fun r => stK (K (.bool r)) ()) := rfl
theorem neqa_e {k : TypeId} (x y : Array Value) : binVC P .neq k (.agg x) (.agg y) K D = aggEq P k x y (fun r => stK (K (.bool (!r))) ()) := rfl
theorem rg_e (s : ByteArray) : rgVC Γ t (.string s) L K2 D = (Γ.P.underlying t = some .string ∧ ∀ b, stK (K2 (.pointer (some ⟨b, 0, none⟩)) (some (b, .stringIter s 0) :: L)) ()) := rfl
theorem nx_e (b : Nat) : nxVC (.pointer (some ⟨b, 0, none⟩)) L K2 D = ∃ (i : Nat) (s : ByteArray) (pos : Nat), L[i]? = some (some (b, .stringIter s pos)) ∧
      if pos < s.size then stK (K2 (.tuple #[.bool true, .int .i64 pos, .int .i32 (Utf8.decode s pos).1]) (L.set i (some (b, .stringIter s (pos + (Utf8.decode s pos).2))))) () else stK (K2 (.tuple #[.bool false]) L) () := rfl
theorem mu_e (r : Nat) (x y : Value) : muVC Γ t (.map (some r)) x y L K3 D = ∃ kd z, mapT Γ.P t = some (kd, z) ∧ ∃ (i : Nat) (es : List MapEntry) (ck : Nat), L[i]? = some (some (r, .map es.toArray ck)) ∧ ∃ fr, Instr.findNow kd x es 0 = some fr ∧ stK (K3 (L.set i (some (r, mapPut es ck x y fr)))) () := rfl
theorem istr_e (s : ByteArray) : indexVC P t (.string s) (.int k a) K D = (P.underlying t = some .string ∧ 0 ≤ a ∧ ∃ b : UInt8, s.data.toList[a.toNat]? = some b ∧ stK (K (.int .u8 (b.toNat : Int))) ()) := rfl
theorem store_e {t : TypeId} {v : Value} : storeVC Γ t ad v L K3 = ((szA Γ.P t).map (·.1) = some v.cells.size ∧ oneB v.cells.toList = true ∧ ad.spot = none ∧
  ∃ (i : Nat) (cs : List Value) (t' : TypeId) (fr : Nat × Nat), L[i]? = some (some (ad.block, .cells cs.toArray t' fr)) ∧ ad.off + v.cells.size ≤ cs.length ∧ (ad.off + v.cells.size ≤ fr.1 ∨ fr.2 ≤ ad.off) ∧
    stK (K3 (L.set i (some (ad.block, .cells (setN cs ad.off v.cells.toList).toArray t' fr)))) ()) := rfl
end
section
variable {Γ : Ctx} {n : Nat} {Q : Exit → Env → Hp → Prop} {T : Env} {L : Hp}
/-- Where the operations of a region put what they yield. -/
def Dsts (ops : Array Oper) (ds : List (Option Tmp)) : Prop := ∀ j : Nat, (ops.toList[j]?).bind (fun o : Oper => o.dst) = (ds[j]?).bind id
theorem dsts_of {l : List Oper} {ds : List (Option Tmp)} (h : l.map (fun o : Oper => o.dst) = ds) : Dsts l.toArray ds := fun j => by
  subst h
  show (l[j]?).bind _ = _
  rw [List.getElem?_map]
  cases l[j]? <;> rfl
theorem SX.region_d {id : Nat} {l : List Oper} (ds : List (Option Tmp)) (hd : l.map (fun o : Oper => o.dst) = ds) (h : ∀ ops : Array Oper, Dsts ops ds → VCops Γ n ops l (Q .normal) T L) : SX Γ n (.region id l.toArray false) Q T L := SX.region (h _ (dsts_of hd))
theorem SX.region_xd {id : Nat} {l : List Oper} (ds : List (Option Tmp)) (hd : l.map (fun o : Oper => o.dst) = ds) (h : ∀ ops : Array Oper, Dsts ops ds → RX Γ n ops l Q T L) : SX Γ n (.region id l.toArray false) Q T L := SX.region_x (h _ (dsts_of hd))
theorem SX.quiet_d {id : Nat} {l : List Oper} (hm : Γ.P.follows .mixedOrders = true) (hB : Region.lexB .any l.toArray = true) (ds : List (Option Tmp)) (hd : l.map (fun o : Oper => o.dst) = ds) (h : ∀ ops : Array Oper, Dsts ops ds → VQops Γ n ops L l (fun T => Q .normal T L) T) : SX Γ n (.region id l.toArray true) Q T L := SX.quiet hm hB (h _ (dsts_of hd))
theorem SX.quiet_xd {id : Nat} {l : List Oper} (hm : Γ.P.follows .mixedOrders = true) (hB : Region.lexB .any l.toArray = true) (ds : List (Option Tmp)) (hd : l.map (fun o : Oper => o.dst) = ds) (h : ∀ ops : Array Oper, Dsts ops ds → QX Γ n ops l L (fun T => Q .normal T L) T) : SX Γ n (.region id l.toArray true) Q T L := SX.quiet_x hm hB (h _ (dsts_of hd))
theorem SX.drawn_d {id : Nat} {l : List Oper} (pl : List (Nat × Kd)) (G : Hp → Hp) (hm : Γ.P.follows .mixedOrders = true) (hB : planB l.toArray pl = true) (hG : Less L (G L)) (ds : List (Option Tmp)) (hd : l.map (fun o : Oper => o.dst) = ds)
    (h : ∀ ops : Array Oper, Dsts ops ds → (∀ k : Nat, ops.toList[k]? = l[k]?) → VCplan Γ n ops G pl (Q .normal) T L) : SX Γ n (.region id l.toArray true) Q T L := SX.drawn pl G hm hB hG (h _ (dsts_of hd) fun _ => rfl)
end
/-- A mark: what it hangs on is left as it is. -/
abbrev Dk {α : Sort u} (_ : α) : Type := Unit
def VCplanH (Γ : Ctx) (n : Nat) (ops : Array Oper) (G : (Hp → Hp)) (pl : List (Nat × Kd)) (K : (Env → Hp → Prop)) (T : Env) (L : Hp) (_ : Dk ops) (_ : Dk G) (_ : Dk K) (_ : Dk T) (_ : Dk L) : Prop := VCplan Γ n ops G pl K T L
def VCopsH (Γ : Ctx) (n : Nat) (ops : Array Oper) (l : List Oper) (K : (Env → Hp → Prop)) (T : Env) (L : Hp) (_ : Dk ops) (_ : Dk l) (_ : Dk K) (_ : Dk T) (_ : Dk L) : Prop := VCops Γ n ops l K T L
def VQopsH (Γ : Ctx) (n : Nat) (ops : Array Oper) (L : Hp) (l : List Oper) (K : (Env → Prop)) (T : Env) (_ : Dk ops) (_ : Dk L) (_ : Dk l) (_ : Dk K) (_ : Dk T) : Prop := VQops Γ n ops L l K T
def guardVCH (ops : Array Oper) (g : Option (Nat × Bool)) (T : Env) (yes : (Env → Prop)) (no : (Env → Prop)) (_ : Dk ops) (_ : Dk T) (_ : Dk yes) (_ : Dk no) : Prop := guardVC ops g T yes no
def putVCH (n : Nat) (d : Option Tmp) (v : Value) (T : Env) (k : (Env → Prop)) (_ : Dk T) (_ : Dk k) : Prop := putVC n d v T k
def VCH (Γ : Ctx) (o : Oper) (T : Env) (L : Hp) (K : (Value → Hp → Prop)) (_ : Dk o) (_ : Dk T) (_ : Dk L) (_ : Dk K) : Prop := VC Γ o T L K
def VQH (Γ : Ctx) (o : Oper) (T : Env) (L : Hp) (K : (Value → Prop)) (_ : Dk o) (_ : Dk T) (_ : Dk L) (_ : Dk K) : Prop := VQ Γ o T L K
def binVCH (P : Program) (op : BinOp) (t : TypeId) (x : Value) (y : Value) (K : (Value → Prop)) (D : Prop) (_ : Dk K) (_ : Dk D) : Prop := binVC P op t x y K D
def unVCH (op : UnOp) (x : Value) (K : (Value → Prop)) (D : Prop) (_ : Dk K) (_ : Dk D) : Prop := unVC op x K D
def convVCH (Γ : Ctx) (s : TypeId) (d : TypeId) (x : Value) (L : Hp) (K : (Value → Prop)) (D : Prop) (_ : Dk L) (_ : Dk K) (_ : Dk D) : Prop := convVC Γ s d x L K D
def sliceVCH (P : Program) (t : TypeId) (x : Value) (lo : Option Value) (hi : Option Value) (mx : Option Value) (K : (Value → Prop)) (D : Prop) (_ : Dk K) (_ : Dk D) : Prop := sliceVC P t x lo hi mx K D
def partVCH (ag : Bool) (sz : Nat) (cs : Array Value) (off : Nat) (K : (Value → Prop)) (_ : Dk K) : Prop := partVC ag sz cs off K
def fieldVCH (P : Program) (t : TypeId) (x : Value) (f : Nat) (K : (Value → Prop)) (D : Prop) (_ : Dk K) (_ : Dk D) : Prop := fieldVC P t x f K D
def indexVCH (P : Program) (t : TypeId) (x : Value) (i : Value) (K : (Value → Prop)) (D : Prop) (_ : Dk K) (_ : Dk D) : Prop := indexVC P t x i K D
def indexAddrVCH (P : Program) (t : TypeId) (x : Value) (i : Value) (K : (Value → Prop)) (D : Prop) (_ : Dk K) (_ : Dk D) : Prop := indexAddrVC P t x i K D
def buildVCH (P : Program) (t : TypeId) (parts : List (Nat × Value)) (K : (Value → Prop)) (D : Prop) (_ : Dk K) (_ : Dk D) : Prop := buildVC P t parts K D
def lenVCH (P : Program) (ty : TypeId) (x : Value) (K : (Value → Prop)) (D : Prop) (_ : Dk K) (_ : Dk D) : Prop := lenVC P ty x K D
def capVCH (P : Program) (ty : TypeId) (x : Value) (K : (Value → Prop)) (D : Prop) (_ : Dk K) (_ : Dk D) : Prop := capVC P ty x K D
def pickVCH (v : Value) (x : Value) (y : Value) (K : (Value → Prop)) (D : Prop) (_ : Dk K) (_ : Dk D) : Prop := pickVC v x y K D
def ldVCH (Γ : Ctx) (t : TypeId) (v : Value) (L : Hp) (K : (Value → Prop)) (D : Prop) (_ : Dk L) (_ : Dk K) (_ : Dk D) : Prop := ldVC Γ t v L K D
def loadVCH (Γ : Ctx) (t : TypeId) (L : Hp) (a : Addr) (K : (Value → Prop)) (_ : Dk L) (_ : Dk K) : Prop := loadVC Γ t L a K
def loadNH (Γ : Ctx) (L : Hp) (a : Addr) (i : Nat) (k : Nat) (acc : List Value) (K : (Value → Prop)) (_ : Dk L) (_ : Dk K) : Prop := loadN Γ L a i k acc K
def nilVCH (v : Value) (K : (Value → Prop)) (D : Prop) (_ : Dk K) (_ : Dk D) : Prop := nilVC v K D
def faVCH (P : Program) (t : TypeId) (v : Value) (f : Nat) (K : (Value → Prop)) (D : Prop) (_ : Dk K) (_ : Dk D) : Prop := faVC P t v f K D
def extVCH (v : Value) (i : Nat) (K : (Value → Prop)) (D : Prop) (_ : Dk K) (_ : Dk D) : Prop := extVC v i K D
def minVCH (x : Value) (y : Value) (K : (Value → Prop)) (D : Prop) (_ : Dk K) (_ : Dk D) : Prop := minVC x y K D
def maxVCH (x : Value) (y : Value) (K : (Value → Prop)) (D : Prop) (_ : Dk K) (_ : Dk D) : Prop := maxVC x y K D
def qcallVCH (Γ : Ctx) (f : Value) (args : Array Value) (L : Hp) (K : (Value → Prop)) (D : Prop) (_ : Dk L) (_ : Dk K) (_ : Dk D) : Prop := qcallVC Γ f args L K D
def lkVCH (Γ : Ctx) (t : TypeId) (x : Value) (k : Value) (ok : Bool) (L : Hp) (K : (Value → Prop)) (D : Prop) (_ : Dk L) (_ : Dk K) (_ : Dk D) : Prop := lkVC Γ t x k ok L K D
def fndKH (z : Option Value) (ok : Bool) (fr : Option (Nat × Value)) (K : (Value → Prop)) (_ : Dk K) : Prop := fndK z ok fr K
def aggEqH (P : Program) (t : TypeId) (a : Array Value) (b : Array Value) (K : (Bool → Prop)) (_ : Dk K) : Prop := aggEq P t a b K
def storeVCH (Γ : Ctx) (t : TypeId) (a : Addr) (v : Value) (L : Hp) (K : (Hp → Prop)) (_ : Dk L) (_ : Dk K) : Prop := storeVC Γ t a v L K
def stVCH (Γ : Ctx) (t : TypeId) (p : Value) (v : Value) (L : Hp) (K : (Hp → Prop)) (D : Prop) (_ : Dk L) (_ : Dk K) (_ : Dk D) : Prop := stVC Γ t p v L K D
def mkVCH (Γ : Ctx) (t : TypeId) (l : Value) (c : Value) (L : Hp) (K : (Value → Hp → Prop)) (D : Prop) (_ : Dk L) (_ : Dk K) (_ : Dk D) : Prop := mkVC Γ t l c L K D
def cvVCH (Γ : Ctx) (s : TypeId) (d : TypeId) (v : Value) (L : Hp) (K : (Value → Hp → Prop)) (D1 : Prop) (D2 : Prop) (_ : Dk L) (_ : Dk K) (_ : Dk D1) (_ : Dk D2) : Prop := cvVC Γ s d v L K D1 D2
def callVCH (Γ : Ctx) (f : Value) (args : Array Value) (L : Hp) (K : (Value → Hp → Prop)) (D : Prop) (_ : Dk L) (_ : Dk K) (_ : Dk D) : Prop := callVC Γ f args L K D
def rgVCH (Γ : Ctx) (t : TypeId) (x : Value) (L : Hp) (K : (Value → Hp → Prop)) (D : Prop) (_ : Dk L) (_ : Dk K) (_ : Dk D) : Prop := rgVC Γ t x L K D
def nxVCH (x : Value) (L : Hp) (K : (Value → Hp → Prop)) (D : Prop) (_ : Dk L) (_ : Dk K) (_ : Dk D) : Prop := nxVC x L K D
def muVCH (Γ : Ctx) (t : TypeId) (m : Value) (k : Value) (v : Value) (L : Hp) (K : (Hp → Prop)) (D : Prop) (_ : Dk L) (_ : Dk K) (_ : Dk D) : Prop := muVC Γ t m k v L K D
def boxVCH (v : Value) (t : TypeId) (L : Hp) (K : (Value → Hp → Prop)) (_ : Dk L) (_ : Dk K) : Prop := boxVC v t L K
def bsVCH (Γ : Ctx) (t : TypeId) (len : Nat) (parts : List (Nat × Value)) (size : Nat) (L : Hp) (K : (Value → Hp → Prop)) (D : Prop) (_ : Dk L) (_ : Dk K) (_ : Dk D) : Prop := bsVC Γ t len parts size L K D
def strDH (o : Option TypeDesc) (Y : Prop) (D : Prop) (_ : Dk Y) (_ : Dk D) : Prop := strD o Y D
def intDH (o : TypeDesc) (K : (IntKind → Prop)) (D : Prop) (_ : Dk K) (_ : Dk D) : Prop := intD o K D
def cvDH (u : TypeDesc) (P : Program) (str : ByteArray) (L : Hp) (K2 : (Value → Hp → Prop)) (D : Prop) (_ : Dk L) (_ : Dk K2) (_ : Dk D) : Prop := cvD u P str L K2 D
def fillKH (place : (Nat → Option (Nat × Nat))) (cells : List Value) (parts : List (Nat × Value)) (K : (List Value → Prop)) (D : Prop) (_ : Dk K) (_ : Dk D) : Prop := fillK place cells parts K D
def gBH (v : Value) (want : Bool) (Y : Prop) (N : Prop) (F : Prop) (_ : Dk Y) (_ : Dk N) (_ : Dk F) : Prop := gB v want Y N F
def oMH {α : Type} (o : Option α) (s : (α → Prop)) (n : Prop) (_ : Dk s) (_ : Dk n) : Prop := oM o s n
def VCopsV (Γ : Ctx) (n : Nat) (ops : Array Oper) (l : List Oper) (K : Env → Hp → Prop) (T : Env) (L : Hp) (_ : Dk ops) (_ : Dk K) (_ : Dk T) (_ : Dk L) : Prop := VCops Γ n ops l K T L
def VQopsV (Γ : Ctx) (n : Nat) (ops : Array Oper) (L : Hp) (l : List Oper) (K : Env → Prop) (T : Env) (_ : Dk ops) (_ : Dk L) (_ : Dk K) (_ : Dk T) : Prop := VQops Γ n ops L l K T
section
variable {Γ : Ctx} {P : Program} {n : Nat} {ops : Array Oper} {T : Env} {L : Hp} {t s d : TypeId} {k k' : IntKind} {a b : Int} {D D2 : Prop} {ad : Addr}
variable {K : Value → Prop} {K2 : Value → Hp → Prop} {K3 : Hp → Prop} {yes no : Env → Prop} {dst : Option Tmp} {ty : TypeId} {ps : String} {af : Array Edge} {g : Option (Nat × Bool)}
theorem oM_someH {α : Type} (a : α) (s : α → Prop) (n : Prop) : oMH (some a) s n () () = s a := oM_some a s n
theorem oM_noneH {α : Type} (s : α → Prop) (n : Prop) : oMH none s n () () = n := oM_none s n
theorem gB_boolH (b want : Bool) (Y N F : Prop) : gBH (.bool b) want Y N F () () () = if b = want then Y else N := gB_bool b want Y N F
theorem strD_stringH (Y D : Prop) : strDH (some .string) Y D () () = Y := strD_string Y D
theorem box_eH (v : Value) (t : TypeId) (L : Hp) (K : Value → Hp → Prop) : boxVCH v t L K () () = ∀ b, stK (K (.pointer (some ⟨b, 0, none⟩)) (some (b, .cells v.cells t (0, 0)) :: L)) () := box_e v t L K
theorem bs_eH (Γ : Ctx) (t : TypeId) (len : Nat) (parts : List (Nat × Value)) (size : Nat) (L : Hp) (K : Value → Hp → Prop) (D : Prop) : bsVCH Γ t len parts size L K D () () () = oMH (elS Γ.P t) (fun p => (inOrd p.2.1 0 parts = true ∧ size = len ∧ len * p.2.1 ≤ 16777216 ∧ (zr Γ.P p.1).map List.length = some p.2.1) ∧ ∀ b, stK (K (.slice (some ⟨b, 0, none⟩) len len) (some (b, .cells (catV parts).toArray p.1 (0, 0)) :: L)) ()) D () () := bs_e Γ t len parts size L K D
theorem cvD_sliceH (e : TypeId) (P : Program) (str : ByteArray) (L : Hp) (K2 : Value → Hp → Prop) (D : Prop) : cvDH (.slice e) P str L K2 D () () () = (P.underlying e = some (.int .u8) ∧ ∀ b cap, str.size ≤ cap → stK (K2 (.slice (some ⟨b, 0, none⟩) str.size cap) (some (b, .cells (bytesV str ++ List.replicate (cap - str.size) (Value.int .u8 0)).toArray e (cap, cap + 1)) :: L)) ()) := cvD_slice e P str L K2 D
theorem cvD_stringH (P : Program) (str : ByteArray) (L : Hp) (K2 : Value → Hp → Prop) (D : Prop) : cvDH .string P str L K2 D () () () = K2 (.string str) L := cvD_string P str L K2 D
theorem fillK_nilH (place : Nat → Option (Nat × Nat)) (cells : List Value) (K : List Value → Prop) (D : Prop) : fillKH place cells [] K D () () = K cells := fillK_nil place cells K D
theorem fillK_consH (place : Nat → Option (Nat × Nat)) (cells : List Value) (i : Nat) (v : Value) (rest : List (Nat × Value)) (K : List Value → Prop) (D : Prop) : fillKH place cells ((i, v) :: rest) K D () () = oMH (place i) (fun p => if v.cells.size = p.2 ∧ p.1 + p.2 ≤ cells.length then fillKH place (setN cells p.1 v.cells.toList) rest K D () () else D) D () () := fillK_cons place cells i v rest K D
theorem intD_intH (k : IntKind) (K : IntKind → Prop) (D : Prop) : intDH (.int k) K D () () = K k := intD_int k K D
theorem guard_noneH : guardVCH ops none T yes no () () () () = yes T := guard_none 
theorem guard_someH (j : Nat) (want : Bool) : guardVCH ops (some (j, want)) T yes no () () () () = oMH ((ops.toList[j]?).bind (·.dst)) (fun d => gBH (T d) want (yes (upd T d (.bool want))) (no (upd T d (.bool (!want)))) (no T) () () ()) (no T) () () := guard_some j want
theorem put_noneH (v : Value) (k : Env → Prop) : putVCH n none v T k () () = k T := put_none v k
theorem put_someH (d : Nat) (v : Value) (k : Env → Prop) : putVCH n (some d) v T k () () = (d < n ∧ k (upd T d v)) := put_some d v k
theorem plan_nilH {G : Hp → Hp} {Q : Env → Hp → Prop} : VCplanH Γ n ops G [] Q T L () () () () () = Q T L := plan_nil 
theorem plan_qH {G : Hp → Hp} {Q : Env → Hp → Prop} (i : Nat) (r : List (Nat × Kd)) : VCplanH Γ n ops G ((i, .q) :: r) Q T L () () () () () = oMH (ops.toList[i]?) (fun o => guardVCH ops o.guard T (fun T => VQH Γ o T (G L) (fun v => putVCH n o.dst v T (fun T => VCplanH Γ n ops G r Q T L () () () () ()) () ()) () () () ()) (fun T => putVCH n o.dst undef T (fun T => VCplanH Γ n ops G r Q T L () () () () ()) () ()) () () () ()) False () () := plan_q i r
theorem plan_cH {G : Hp → Hp} {Q : Env → Hp → Prop} (i : Nat) (r : List (Nat × Kd)) : VCplanH Γ n ops G ((i, .c) :: r) Q T L () () () () () = oMH (ops.toList[i]?) (fun o => guardVCH ops o.guard T (fun T => ∃ v, (∀ L0, Less L0 (G L) → VCH Γ o T L0 (fun u L1 => u = v ∧ L1 = L0) () () () ()) ∧ putVCH n o.dst v T (fun T => VCplanH Γ n ops G r Q T L () () () () ()) () ()) (fun T => putVCH n o.dst undef T (fun T => VCplanH Γ n ops G r Q T L () () () () ()) () ()) () () () ()) False () () := plan_c i r
theorem plan_eH {G : Hp → Hp} {Q : Env → Hp → Prop} (i : Nat) (r : List (Nat × Kd)) : VCplanH Γ n ops G ((i, .e) :: r) Q T L () () () () () = oMH (ops.toList[i]?) (fun o => guardVCH ops o.guard T (fun T => VCH Γ o T L (fun v L' => putVCH n o.dst v T (fun T => (Less L' (G L') ∧ Less (G L') (G L)) ∧ VCplanH Γ n ops G r Q T L' () () () () ()) () ()) () () () ()) (fun T => putVCH n o.dst undef T (fun T => VCplanH Γ n ops G r Q T L () () () () ()) () ()) () () () ()) False () () := plan_e i r
theorem plan_tH {G : Hp → Hp} {Q : Env → Hp → Prop} (i : Nat) (r : List (Nat × Kd)) : VCplanH Γ n ops G ((i, .t) :: r) Q T L () () () () () = oMH (ops.toList[i]?) (fun o => guardVCH ops o.guard T (fun T => VCH Γ o T L (fun v L' => putVCH n o.dst v T (fun T => VCplanH Γ n ops G r Q T L' () () () () ()) () ()) () () () ()) (fun T => putVCH n o.dst undef T (fun T => VCplanH Γ n ops G r Q T L () () () () ()) () ()) () () () ()) False () () := plan_t i r
theorem VQ_moveH (x : Operand) : VQH Γ ⟨dst, .move x, ty, ps, af, g⟩ T L K () () () () = K (ev T x) := VQ_move x
theorem VC_moveH (x : Operand) : VCH Γ ⟨dst, .move x, ty, ps, af, g⟩ T L K2 () () () () = (fun v => K2 v L) (ev T x) := VC_move x
theorem VQ_assignH (x : Operand) : VQH Γ ⟨dst, .assign x, ty, ps, af, g⟩ T L K () () () () = K (ev T x) := VQ_assign x
theorem VC_assignH (x : Operand) : VCH Γ ⟨dst, .assign x, ty, ps, af, g⟩ T L K2 () () () () = (fun v => K2 v L) (ev T x) := VC_assign x
theorem VQ_pickH (c x y : Operand) : VQH Γ ⟨dst, .pick c x y, ty, ps, af, g⟩ T L K () () () () = pickVCH (ev T c) (ev T x) (ev T y) K False () () := VQ_pick c x y
theorem VC_pickH (c x y : Operand) : VCH Γ ⟨dst, .pick c x y, ty, ps, af, g⟩ T L K2 () () () () = pickVCH (ev T c) (ev T x) (ev T y) (fun v => K2 v L) False () () := VC_pick c x y
theorem VQ_loadH (e : TypeId) (x : Operand) : VQH Γ ⟨dst, .load e x, ty, ps, af, g⟩ T L K () () () () = ldVCH Γ e (ev T x) L K False () () () := VQ_load e x
theorem VC_loadH (e : TypeId) (x : Operand) : VCH Γ ⟨dst, .load e x, ty, ps, af, g⟩ T L K2 () () () () = ldVCH Γ e (ev T x) L (fun v => K2 v L) False () () () := VC_load e x
theorem VQ_nilCheckH (x : Operand) : VQH Γ ⟨dst, .nilCheck x, ty, ps, af, g⟩ T L K () () () () = nilVCH (ev T x) K False () () := VQ_nilCheck x
theorem VC_nilCheckH (x : Operand) : VCH Γ ⟨dst, .nilCheck x, ty, ps, af, g⟩ T L K2 () () () () = nilVCH (ev T x) (fun v => K2 v L) False () () := VC_nilCheck x
theorem VQ_unOpH (op : UnOp) (e : TypeId) (x : Operand) : VQH Γ ⟨dst, .unOp op e x, ty, ps, af, g⟩ T L K () () () () = unVCH op (ev T x) K False () () := VQ_unOp op e x
theorem VC_unOpH (op : UnOp) (e : TypeId) (x : Operand) : VCH Γ ⟨dst, .unOp op e x, ty, ps, af, g⟩ T L K2 () () () () = unVCH op (ev T x) (fun v => K2 v L) False () () := VC_unOp op e x
theorem VQ_binOpH (op : BinOp) (e e2 : TypeId) (x y : Operand) : VQH Γ ⟨dst, .binOp op e x y e2, ty, ps, af, g⟩ T L K () () () () = binVCH Γ.P op e (ev T x) (ev T y) K (YieldsQ Γ ⟨dst, .binOp op e x y e2, ty, ps, af, g⟩ T L K) () () := VQ_binOp op e e2 x y
theorem VC_binOpH (op : BinOp) (e e2 : TypeId) (x y : Operand) : VCH Γ ⟨dst, .binOp op e x y e2, ty, ps, af, g⟩ T L K2 () () () () = binVCH Γ.P op e (ev T x) (ev T y) (fun v => K2 v L) (YieldsQ Γ ⟨dst, .binOp op e x y e2, ty, ps, af, g⟩ T L (fun v => K2 v L)) () () := VC_binOp op e e2 x y
theorem VQ_makeFuncH (fn : Fn) (x y : Array Operand) : VQH Γ ⟨dst, .makeFunc fn x y, ty, ps, af, g⟩ T L K () () () () = K (.func fn (x.map (ev T)) (y.map (ev T))) := VQ_makeFunc fn x y
theorem VC_makeFuncH (fn : Fn) (x y : Array Operand) : VCH Γ ⟨dst, .makeFunc fn x y, ty, ps, af, g⟩ T L K2 () () () () = (fun v => K2 v L) (.func fn (x.map (ev T)) (y.map (ev T))) := VC_makeFunc fn x y
theorem VQ_fieldAddrH (e : TypeId) (x : Operand) (f : Nat) : VQH Γ ⟨dst, .fieldAddr e x f, ty, ps, af, g⟩ T L K () () () () = faVCH Γ.P e (ev T x) f K False () () := VQ_fieldAddr e x f
theorem VC_fieldAddrH (e : TypeId) (x : Operand) (f : Nat) : VCH Γ ⟨dst, .fieldAddr e x f, ty, ps, af, g⟩ T L K2 () () () () = faVCH Γ.P e (ev T x) f (fun v => K2 v L) False () () := VC_fieldAddr e x f
theorem VQ_fieldH (e : TypeId) (x : Operand) (f : Nat) : VQH Γ ⟨dst, .field e x f, ty, ps, af, g⟩ T L K () () () () = fieldVCH Γ.P e (ev T x) f K False () () := VQ_field e x f
theorem VC_fieldH (e : TypeId) (x : Operand) (f : Nat) : VCH Γ ⟨dst, .field e x f, ty, ps, af, g⟩ T L K2 () () () () = fieldVCH Γ.P e (ev T x) f (fun v => K2 v L) False () () := VC_field e x f
theorem VQ_indexAddrH (e : TypeId) (x y : Operand) : VQH Γ ⟨dst, .indexAddr e x y, ty, ps, af, g⟩ T L K () () () () = indexAddrVCH Γ.P e (ev T x) (ev T y) K False () () := VQ_indexAddr e x y
theorem VC_indexAddrH (e : TypeId) (x y : Operand) : VCH Γ ⟨dst, .indexAddr e x y, ty, ps, af, g⟩ T L K2 () () () () = indexAddrVCH Γ.P e (ev T x) (ev T y) (fun v => K2 v L) False () () := VC_indexAddr e x y
theorem VQ_indexH (e : TypeId) (x y : Operand) : VQH Γ ⟨dst, .index e x y, ty, ps, af, g⟩ T L K () () () () = indexVCH Γ.P e (ev T x) (ev T y) K False () () := VQ_index e x y
theorem VC_indexH (e : TypeId) (x y : Operand) : VCH Γ ⟨dst, .index e x y, ty, ps, af, g⟩ T L K2 () () () () = indexVCH Γ.P e (ev T x) (ev T y) (fun v => K2 v L) False () () := VC_index e x y
theorem VQ_sliceH (e : TypeId) (x : Operand) (lo hi mx : Option Operand) : VQH Γ ⟨dst, .slice e x lo hi mx, ty, ps, af, g⟩ T L K () () () () = sliceVCH Γ.P e (ev T x) (lo.map (ev T)) (hi.map (ev T)) (mx.map (ev T)) K False () () := VQ_slice e x lo hi mx
theorem VC_sliceH (e : TypeId) (x : Operand) (lo hi mx : Option Operand) : VCH Γ ⟨dst, .slice e x lo hi mx, ty, ps, af, g⟩ T L K2 () () () () = sliceVCH Γ.P e (ev T x) (lo.map (ev T)) (hi.map (ev T)) (mx.map (ev T)) (fun v => K2 v L) False () () := VC_slice e x lo hi mx
theorem VQ_extractH (x : Operand) (i : Nat) : VQH Γ ⟨dst, .extract x i, ty, ps, af, g⟩ T L K () () () () = extVCH (ev T x) i K False () () := VQ_extract x i
theorem VC_extractH (x : Operand) (i : Nat) : VCH Γ ⟨dst, .extract x i, ty, ps, af, g⟩ T L K2 () () () () = extVCH (ev T x) i (fun v => K2 v L) False () () := VC_extract x i
theorem VQ_buildH (e : TypeId) (parts : List (Nat × Operand)) : VQH Γ ⟨dst, .build e parts.toArray, ty, ps, af, g⟩ T L K () () () () = buildVCH Γ.P e (evP T parts) K False () () := VQ_build e parts
theorem VC_buildH (e : TypeId) (parts : List (Nat × Operand)) : VCH Γ ⟨dst, .build e parts.toArray, ty, ps, af, g⟩ T L K2 () () () () = buildVCH Γ.P e (evP T parts) (fun v => K2 v L) False () () := VC_build e parts
theorem VQ_lookupH (e : TypeId) (x y : Operand) (ok : Bool) : VQH Γ ⟨dst, .lookup e x y ok, ty, ps, af, g⟩ T L K () () () () = lkVCH Γ e (ev T x) (ev T y) ok L K False () () () := VQ_lookup e x y ok
theorem VC_lookupH (e : TypeId) (x y : Operand) (ok : Bool) : VCH Γ ⟨dst, .lookup e x y ok, ty, ps, af, g⟩ T L K2 () () () () = lkVCH Γ e (ev T x) (ev T y) ok L (fun v => K2 v L) False () () () := VC_lookup e x y ok
theorem VQ_lenH (x : Operand) (e : TypeId) : VQH Γ ⟨dst, .call ⟨.builtin .len, #[x], #[e]⟩, ty, ps, af, g⟩ T L K () () () () = lenVCH Γ.P e (ev T x) K False () () := VQ_len x e
theorem VC_lenH (x : Operand) (e : TypeId) : VCH Γ ⟨dst, .call ⟨.builtin .len, #[x], #[e]⟩, ty, ps, af, g⟩ T L K2 () () () () = lenVCH Γ.P e (ev T x) (fun v => K2 v L) False () () := VC_len x e
theorem VQ_capH (x : Operand) (e : TypeId) : VQH Γ ⟨dst, .call ⟨.builtin .cap, #[x], #[e]⟩, ty, ps, af, g⟩ T L K () () () () = capVCH Γ.P e (ev T x) K False () () := VQ_cap x e
theorem VC_capH (x : Operand) (e : TypeId) : VCH Γ ⟨dst, .call ⟨.builtin .cap, #[x], #[e]⟩, ty, ps, af, g⟩ T L K2 () () () () = capVCH Γ.P e (ev T x) (fun v => K2 v L) False () () := VC_cap x e
theorem VQ_minH (x y : Operand) (ts : Array TypeId) : VQH Γ ⟨dst, .call ⟨.builtin .min, #[x, y], ts⟩, ty, ps, af, g⟩ T L K () () () () = minVCH (ev T x) (ev T y) K False () () := VQ_min x y ts
theorem VC_minH (x y : Operand) (ts : Array TypeId) : VCH Γ ⟨dst, .call ⟨.builtin .min, #[x, y], ts⟩, ty, ps, af, g⟩ T L K2 () () () () = minVCH (ev T x) (ev T y) (fun v => K2 v L) False () () := VC_min x y ts
theorem VQ_maxH (x y : Operand) (ts : Array TypeId) : VQH Γ ⟨dst, .call ⟨.builtin .max, #[x, y], ts⟩, ty, ps, af, g⟩ T L K () () () () = maxVCH (ev T x) (ev T y) K False () () := VQ_max x y ts
theorem VC_maxH (x y : Operand) (ts : Array TypeId) : VCH Γ ⟨dst, .call ⟨.builtin .max, #[x, y], ts⟩, ty, ps, af, g⟩ T L K2 () () () () = maxVCH (ev T x) (ev T y) (fun v => K2 v L) False () () := VC_max x y ts
theorem VQ_convertH (e e2 : TypeId) (x : Operand) : VQH Γ ⟨dst, .convert e e2 x, ty, ps, af, g⟩ T L K () () () () = convVCH Γ e e2 (ev T x) L K (YieldsQ Γ ⟨dst, .convert e e2 x, ty, ps, af, g⟩ T L K) () () () := VQ_convert e e2 x
theorem VQ_callH (f : Operand) (as_ : Array Operand) (ts : Array TypeId) : VQH Γ ⟨dst, .call ⟨.value f, as_, ts⟩, ty, ps, af, g⟩ T L K () () () () = qcallVCH Γ (ev T f) (as_.map (ev T)) L K False () () () := VQ_call f as_ ts
theorem VC_allocH (e : TypeId) : VCH Γ ⟨dst, .alloc e, ty, ps, af, g⟩ T L K2 () () () () = oMH (zr Γ.P e) (fun z => ∀ b, stK (K2 (.pointer (some ⟨b, 0, none⟩)) (some (b, .cells z.toArray e (0, 0)) :: L)) ()) (Yields Γ ⟨dst, .alloc e, ty, ps, af, g⟩ T L K2) () () := VC_alloc e
theorem VC_boxH (e : TypeId) (x : Operand) : VCH Γ ⟨dst, .box e x, ty, ps, af, g⟩ T L K2 () () () () = boxVCH (ev T x) e L K2 () () := VC_box e x
theorem VC_storeH (e : TypeId) (x y : Operand) : VCH Γ ⟨dst, .store e x y, ty, ps, af, g⟩ T L K2 () () () () = stVCH Γ e (ev T x) (ev T y) L (K2 undef) False () () () := VC_store e x y
theorem VC_buildSliceH (e : TypeId) (len : Nat) (parts : List (Nat × Operand)) : VCH Γ ⟨dst, .buildSlice e len parts.toArray, ty, ps, af, g⟩ T L K2 () () () () = bsVCH Γ e len (evP T parts) parts.length L K2 (Yields Γ ⟨dst, .buildSlice e len parts.toArray, ty, ps, af, g⟩ T L K2) () () () := VC_buildSlice e len parts
theorem VC_makeSliceH (e : TypeId) (x y : Operand) : VCH Γ ⟨dst, .makeSlice e x y, ty, ps, af, g⟩ T L K2 () () () () = mkVCH Γ e (ev T x) (ev T y) L K2 False () () () := VC_makeSlice e x y
theorem VC_rangeH (e : TypeId) (x : Operand) : VCH Γ ⟨dst, .range e x, ty, ps, af, g⟩ T L K2 () () () () = rgVCH Γ e (ev T x) L K2 False () () () := VC_range e x
theorem VC_nextH (x : Operand) : VCH Γ ⟨dst, .next x true, ty, ps, af, g⟩ T L K2 () () () () = nxVCH (ev T x) L K2 False () () () := VC_next x
theorem VC_makeMapH (e : TypeId) : VCH Γ ⟨dst, .makeMap e none, ty, ps, af, g⟩ T L K2 () () () () = ∀ b, stK (K2 (.map (some b)) (some (b, .map #[] 0) :: L)) () := VC_makeMap e
theorem VC_mapUpdateH (e : TypeId) (m x y : Operand) : VCH Γ ⟨dst, .mapUpdate e m x y, ty, ps, af, g⟩ T L K2 () () () () = muVCH Γ e (ev T m) (ev T x) (ev T y) L (K2 undef) False () () () := VC_mapUpdate e m x y
theorem VC_insertH (e : TypeId) (m x y : Operand) : VCH Γ ⟨dst, .insert e m x y, ty, ps, af, g⟩ T L K2 () () () () = muVCH Γ e (ev T m) (ev T x) (ev T y) L (K2 undef) False () () () := VC_insert e m x y
theorem VC_convertH (e e2 : TypeId) (x : Operand) : VCH Γ ⟨dst, .convert e e2 x, ty, ps, af, g⟩ T L K2 () () () () = cvVCH Γ e e2 (ev T x) L K2 False (VQH Γ ⟨dst, .convert e e2 x, ty, ps, af, g⟩ T L (fun v => K2 v L) () () () ()) () () () () := VC_convert e e2 x
theorem VC_appendH (x y : Operand) (tx ty2 : TypeId) : VCH Γ ⟨dst, .call ⟨.builtin .append, #[x, y], #[tx, ty2]⟩, ty, ps, af, g⟩ T L K2 () () () () = YAppend Γ tx ty2 (ev T x) (ev T y) L (fun v L => stK (K2 v L) ()) := VC_append x y tx ty2
theorem VC_copyH (x y : Operand) (tx ty2 : TypeId) : VCH Γ ⟨dst, .call ⟨.builtin .copy, #[x, y], #[tx, ty2]⟩, ty, ps, af, g⟩ T L K2 () () () () = YCopy Γ tx ty2 (ev T x) (ev T y) L (fun v L => stK (K2 v L) ()) := VC_copy x y tx ty2
theorem VC_callH (f : Operand) (as_ : Array Operand) (ts : Array TypeId) : VCH Γ ⟨dst, .call ⟨.value f, as_, ts⟩, ty, ps, af, g⟩ T L K2 () () () () = callVCH Γ (ev T f) (as_.map (ev T)) L K2 False () () () := VC_call f as_ ts
theorem loadVC_eH : loadVCH Γ t L ad K () () = oMH (szA Γ.P t) (fun p => if p.2 = true then loadNH Γ L ad 0 p.1 [] (fun v => stK (K v) ()) () () else ∃ v, Cell Γ L ad v ∧ stK (K v) ()) False () () := loadVC_e 
theorem part_eH (ag : Bool) (sz : Nat) (cs : Array Value) (off : Nat) : partVCH ag sz cs off K () = if ag = true then K (.agg (cs.toList.drop off |>.take sz).toArray) else oMH (cs.toList[off]?) K False () () := part_e ag sz cs off
theorem fa_eH (f : Nat) : faVCH P t (.pointer (some ad)) f K D () () = oMH (lay P t) (fun l => oMH l[f]? (fun p => p.2.1 ≠ 0 ∧ K (.pointer (some (ad.add p.1)))) D () ()) D () () := fa_e f
theorem field_eH (cs : Array Value) (f : Nat) : fieldVCH P t (.agg cs) f K D () () = oMH (lay P t) (fun l => oMH l[f]? (fun p => partVCH p.2.2 p.2.1 cs p.1 K ()) D () ()) D () () := field_e cs f
theorem index_eH (cs : Array Value) : indexVCH P t (.agg cs) (.int k a) K D () () = oMH (elA P t) (fun p => (0 ≤ a ∧ a < p.1) ∧ partVCH p.2.2.2 p.2.2.1 cs (a.toNat * p.2.2.1) K ()) D () () := index_e cs
theorem ext_eH (vs : Array Value) (i : Nat) : extVCH (.tuple vs) i K D () () = oMH (vs.toList[i]?) K False () () := ext_e vs i
theorem ia_someH (len cap : Nat) : indexAddrVCH P t (.slice (some ad) len cap) (.int k a) K D () () = oMH (elS P t) (fun p => (0 ≤ a ∧ a < len) ∧ K (.pointer (some (ad.add (a.toNat * p.2.1))))) D () () := ia_some len cap
theorem ia_anyH (base : Option Addr) (len cap : Nat) : indexAddrVCH P t (.slice base len cap) (.int k a) K D () () = oMH (elS P t) (fun p => (0 ≤ a ∧ a < len) ∧ ∃ ad, base = some ad ∧ stK (K (.pointer (some (ad.add (a.toNat * p.2.1))))) ()) D () () := ia_any base len cap
theorem ia_ptrH : indexAddrVCH P t (.pointer (some ad)) (.int k a) K D () () = oMH (elA P t) (fun p => (0 ≤ a ∧ a < p.1) ∧ K (.pointer (some (ad.add (a.toNat * p.2.2.1))))) D () () := ia_ptr 
theorem conv_eH : convVCH Γ s d (.int k a) L K D () () () = oMH (Γ.P.underlying s) (fun _ => oMH (Γ.P.underlying d) (fun u => intDH u (fun k => K (.int k (k.wrap a))) D () ()) D () ()) D () () := conv_e 
theorem sl_strH (st : ByteArray) (lo hi : Option Value) : sliceVCH P t (.string st) lo hi none K D () () = oMH (optI 0 lo) (fun l => oMH (optI st.size hi) (fun h => strDH (P.underlying t) ((0 ≤ l ∧ l ≤ h ∧ h ≤ st.size) ∧ K (.string (st.extract l.toNat h.toNat))) D () ()) D () ()) D () () := sl_str st lo hi
theorem sl_slH (base : Option Addr) (len cap : Nat) (lo hi : Option Value) : sliceVCH P t (.slice base len cap) lo hi none K D () () = oMH (elS P t) (fun p => oMH (optI 0 lo) (fun l => oMH (optI len hi) (fun h => ((hi.isSome = true ∨ len ≤ cap) ∧ 0 ≤ l ∧ l ≤ h ∧ h ≤ cap) ∧ K (.slice (cutA base p.2.1 cap l.toNat) (h.toNat - l.toNat) (cap - l.toNat))) D () ()) D () ()) D () () := sl_sl base len cap lo hi
theorem sl_arr0H (lo : Option Value) : sliceVCH P t (.pointer (some ad)) lo none none K D () () = oMH (elA P t) (fun p => oMH (optI 0 lo) (fun l => (0 ≤ l ∧ l ≤ p.1) ∧ K (.slice (cutA (some ad) p.2.2.1 p.1 l.toNat) (p.1 - l.toNat) (p.1 - l.toNat))) D () ()) D () () := sl_arr0 lo
theorem sl_arr1H (lo : Option Value) (h : Int) : sliceVCH P t (.pointer (some ad)) lo (some (.int k h)) none K D () () = oMH (elA P t) (fun p => oMH (optI 0 lo) (fun l => (0 ≤ l ∧ l ≤ h ∧ h ≤ p.1) ∧ K (.slice (cutA (some ad) p.2.2.1 p.1 l.toNat) (h.toNat - l.toNat) (p.1 - l.toNat))) D () ()) D () () := sl_arr1 lo h
theorem build_eH (parts : List (Nat × Value)) : buildVCH P t parts K D () () = oMH (lay P t) (fun l => oMH (zr P t) (fun z => fillKH (placeL l) z parts (fun cs => K (.agg cs.toArray)) D () ()) D () ()) (oMH (elA P t) (fun p => oMH (zr P t) (fun z => fillKH (fun i => some (i * p.2.2.1, p.2.2.1)) z parts (fun cs => K (.agg cs.toArray)) D () ()) D () ()) D () ()) () () := build_e parts
theorem mk_eH : mkVCH Γ t (.int k a) (.int k' b) L K2 D () () () = oMH (elS Γ.P t) (fun p => oMH (zr Γ.P p.1) (fun z => (0 ≤ a ∧ a ≤ b ∧ b * p.2.2 ≤ 281474976710656 ∧ b ≤ 9223372036854775807 ∧ z.length = p.2.1) ∧ ∀ bk, stK (K2 (.slice (some ⟨bk, 0, none⟩) a.toNat b.toNat) (some (bk, .cells (zerosV z b.toNat).toArray p.1 (0, 0)) :: L)) ()) D () ()) D () () := mk_e 
theorem cv_eH (s d : TypeId) (str : ByteArray) : cvVCH Γ s d (.string str) L K2 D D2 () () () () = oMH (Γ.P.underlying s) (fun _ => oMH (Γ.P.underlying d) (fun u => cvDH u Γ.P str L K2 D () () ()) D () ()) D () () := cv_e s d str
theorem ops_nilH {Q : Env → Hp → Prop} : VCopsH Γ n ops [] Q T L () () () () () = Q T L := ops_nil 
theorem ops_consH {Q : Env → Hp → Prop} (o : Oper) (r : List Oper) : VCopsH Γ n ops (o :: r) Q T L () () () () () = guardVCH ops o.guard T (fun T => VCH Γ o T L (fun v L => putVCH n o.dst v T (fun T => VCopsH Γ n ops r Q T L () () () () ()) () ()) () () () ()) (fun T => putVCH n o.dst undef T (fun T => VCopsH Γ n ops r Q T L () () () () ()) () ()) () () () () := ops_cons o r
theorem qops_nilH {Q : Env → Prop} : VQopsH Γ n ops L [] Q T () () () () () = Q T := qops_nil 
theorem qops_consH {Q : Env → Prop} (o : Oper) (r : List Oper) : VQopsH Γ n ops L (o :: r) Q T () () () () () = guardVCH ops o.guard T (fun T => VQH Γ o T L (fun v => putVCH n o.dst v T (fun T => VQopsH Γ n ops L r Q T () () () () ()) () ()) () () () ()) (fun T => putVCH n o.dst undef T (fun T => VQopsH Γ n ops L r Q T () () () () ()) () ()) () () () () := qops_cons o r
theorem ld_eH : ldVCH Γ t (.pointer (some ad)) L K D () () () = loadVCH Γ t L ad K () () := ld_e 
theorem st_eH (v : Value) : stVCH Γ t (.pointer (some ad)) v L K3 D () () () = storeVCH Γ t ad v L K3 () () := st_e v
theorem call_eH (f : FuncId) (fi ca as_ : Array Value) : callVCH Γ (.func (.func f) fi ca) as_ L K2 D () () () = (callable Γ.P f = true ∧ SCall Γ f ((fi ++ as_ ++ ca)) L (fun v L => stK (K2 v L) ())) := call_e f fi ca as_
theorem qcall_eH (f : FuncId) (fi ca as_ : Array Value) : qcallVCH Γ (.func (.func f) fi ca) as_ L K D () () () = (callable Γ.P f = true ∧ ∃ v, SCall Γ f ((fi ++ as_ ++ ca)) L (fun v' L' => v' = v ∧ L' = L) ∧ stK (K v) ()) := qcall_e f fi ca as_
theorem eqla_eH {k : TypeId} (x y : Array Value) : binVCH P .eql k (.agg x) (.agg y) K D () () = aggEqH P k x y (fun r => stK (K (.bool r)) ()) () := eqla_e x y
theorem neqa_eH {k : TypeId} (x y : Array Value) : binVCH P .neq k (.agg x) (.agg y) K D () () = aggEqH P k x y (fun r => stK (K (.bool (!r))) ()) () := neqa_e x y
theorem rg_eH (s : ByteArray) : rgVCH Γ t (.string s) L K2 D () () () = (Γ.P.underlying t = some .string ∧ ∀ b, stK (K2 (.pointer (some ⟨b, 0, none⟩)) (some (b, .stringIter s 0) :: L)) ()) := rg_e s
theorem nx_eH (b : Nat) : nxVCH (.pointer (some ⟨b, 0, none⟩)) L K2 D () () () = ∃ (i : Nat) (s : ByteArray) (pos : Nat), L[i]? = some (some (b, .stringIter s pos)) ∧ if pos < s.size then stK (K2 (.tuple #[.bool true, .int .i64 pos, .int .i32 (Utf8.decode s pos).1]) (L.set i (some (b, .stringIter s (pos + (Utf8.decode s pos).2))))) () else stK (K2 (.tuple #[.bool false]) L) () := nx_e b
theorem mu_eH (r : Nat) (x y : Value) : muVCH Γ t (.map (some r)) x y L K3 D () () () = ∃ kd z, mapT Γ.P t = some (kd, z) ∧ ∃ (i : Nat) (es : List MapEntry) (ck : Nat), L[i]? = some (some (r, .map es.toArray ck)) ∧ ∃ fr, Instr.findNow kd x es 0 = some fr ∧ stK (K3 (L.set i (some (r, mapPut es ck x y fr)))) () := mu_e r x y
theorem istr_eH (s : ByteArray) : indexVCH P t (.string s) (.int k a) K D () () = (P.underlying t = some .string ∧ 0 ≤ a ∧ ∃ b : UInt8, s.data.toList[a.toNat]? = some b ∧ stK (K (.int .u8 (b.toNat : Int))) ()) := istr_e s
theorem store_eH {t : TypeId} {v : Value} : storeVCH Γ t ad v L K3 () () = ((szA Γ.P t).map (·.1) = some v.cells.size ∧ oneB v.cells.toList = true ∧ ad.spot = none ∧ ∃ (i : Nat) (cs : List Value) (t' : TypeId) (fr : Nat × Nat), L[i]? = some (some (ad.block, .cells cs.toArray t' fr)) ∧ ad.off + v.cells.size ≤ cs.length ∧ (ad.off + v.cells.size ≤ fr.1 ∨ fr.2 ≤ ad.off) ∧ stK (K3 (L.set i (some (ad.block, .cells (setN cs ad.off v.cells.toList).toArray t' fr)))) ()) := store_e 
end
section
variable {P : Program} {Γ : Ctx} {t : TypeId} {k k' : IntKind} {a b : Int} {K : Value → Prop} {D : Prop} {L : Hp} {ad : Addr} {K2 : Value → Hp → Prop} {D1 D2 : Prop}
theorem bin_addH : binVCH P .add t (.int k a) (.int k' b) K D () () = (k = k' ∧ K (.int k (k.wrap (a + b)))) := bin_add 
theorem bin_subH : binVCH P .sub t (.int k a) (.int k' b) K D () () = (k = k' ∧ K (.int k (k.wrap (a - b)))) := bin_sub 
theorem bin_mulH : binVCH P .mul t (.int k a) (.int k' b) K D () () = (k = k' ∧ K (.int k (k.wrap (a * b)))) := bin_mul 
theorem bin_quoH : binVCH P .quo t (.int k a) (.int k' b) K D () () = (k = k' ∧ b ≠ 0 ∧ K (.int k (k.wrap (a.tdiv b)))) := bin_quo 
theorem bin_remH : binVCH P .rem t (.int k a) (.int k' b) K D () () = (k = k' ∧ b ≠ 0 ∧ K (.int k (a.tmod b))) := bin_rem 
theorem bin_andH : binVCH P .and t (.int k a) (.int k' b) K D () () = (k = k' ∧ K (.int k (bits .and k a b))) := bin_and 
theorem bin_orH : binVCH P .or t (.int k a) (.int k' b) K D () () = (k = k' ∧ K (.int k (bits .or k a b))) := bin_or 
theorem bin_xorH : binVCH P .xor t (.int k a) (.int k' b) K D () () = (k = k' ∧ K (.int k (bits .xor k a b))) := bin_xor 
theorem bin_andNotH : binVCH P .andNot t (.int k a) (.int k' b) K D () () = (k = k' ∧ K (.int k (bits .andNot k a b))) := bin_andNot 
theorem bin_shlH : binVCH P .shl t (.int k a) (.int k' b) K D () () = (0 ≤ b ∧ K (.int k (k.wrap (a * 2 ^ (min b.toNat k.bits))))) := bin_shl 
theorem bin_shrH : binVCH P .shr t (.int k a) (.int k' b) K D () () = (0 ≤ b ∧ K (.int k (a.fdiv (2 ^ (min b.toNat k.bits))))) := bin_shr 
theorem bin_eqlH : binVCH P .eql t (.int k a) (.int k' b) K D () () = (k = k' ∧ K (.bool (decide (a = b)))) := bin_eql 
theorem bin_neqH : binVCH P .neq t (.int k a) (.int k' b) K D () () = (k = k' ∧ K (.bool (!decide (a = b)))) := bin_neq 
theorem bin_lssH : binVCH P .lss t (.int k a) (.int k' b) K D () () = (k = k' ∧ K (.bool (decide (a < b)))) := bin_lss 
theorem bin_leqH : binVCH P .leq t (.int k a) (.int k' b) K D () () = (k = k' ∧ K (.bool (decide (a ≤ b)))) := bin_leq 
theorem bin_gtrH : binVCH P .gtr t (.int k a) (.int k' b) K D () () = (k = k' ∧ K (.bool (decide (b < a)))) := bin_gtr 
theorem bin_geqH : binVCH P .geq t (.int k a) (.int k' b) K D () () = (k = k' ∧ K (.bool (decide (b ≤ a)))) := bin_geq 
theorem bin_eqlbH (x y : Bool) : binVCH P .eql t (.bool x) (.bool y) K D () () = (P.underlying t = some .bool ∧ K (.bool (x == y))) := bin_eqlb x y
theorem bin_neqbH (x y : Bool) : binVCH P .neq t (.bool x) (.bool y) K D () () = (P.underlying t = some .bool ∧ K (.bool (!(x == y)))) := bin_neqb x y
theorem bin_addsH (x y : ByteArray) : binVCH P .add t (.string x) (.string y) K D () () = (x.size + y.size ≤ 9223372036854775807 ∧ K (.string (x ++ y))) := bin_adds x y
theorem bin_eqlsH (x y : ByteArray) : binVCH P .eql t (.string x) (.string y) K D () () = K (.bool (decide (x = y))) := bin_eqls x y
theorem bin_neqsH (x y : ByteArray) : binVCH P .neq t (.string x) (.string y) K D () () = K (.bool (!decide (x = y))) := bin_neqs x y
theorem bin_eqlpnH {p : Option Addr} : binVCH P .eql t (.pointer p) (.pointer none) K D () () = (ptB P t = true ∧ K (.bool p.isNone)) := bin_eqlpn 
theorem bin_neqpnH {p : Option Addr} : binVCH P .neq t (.pointer p) (.pointer none) K D () () = (ptB P t = true ∧ K (.bool (!p.isNone))) := bin_neqpn 
theorem bin_eqlppH {p q : Addr} : binVCH P .eql t (.pointer (some p)) (.pointer (some q)) K D () () = (ptB P t = true ∧ p = q ∧ K (.bool true)) := bin_eqlpp 
theorem bin_neqppH {p q : Addr} : binVCH P .neq t (.pointer (some p)) (.pointer (some q)) K D () () = (ptB P t = true ∧ p = q ∧ K (.bool false)) := bin_neqpp 
theorem bin_eqlsnH {p : Option Addr} {n c : Nat} : binVCH P .eql t (.slice p n c) (.slice none 0 0) K D () () = ((elS P t).isSome = true ∧ K (.bool p.isNone)) := bin_eqlsn 
theorem bin_neqsnH {p : Option Addr} {n c : Nat} : binVCH P .neq t (.slice p n c) (.slice none 0 0) K D () () = ((elS P t).isSome = true ∧ K (.bool (!p.isNone))) := bin_neqsn 
theorem un_notH (x : Bool) : unVCH .not (.bool x) K D () () = K (.bool (!x)) := un_not x
theorem un_negH : unVCH .neg (.int k a) K D () () = K (.int k (k.wrap (0 - a))) := un_neg 
theorem un_xorH : unVCH .xor (.int k a) K D () () = K (.int k (bits .xor k (if k.signed then -1 else k.max) a)) := un_xor 
theorem pick_boolH (c : Bool) (x y : Value) : pickVCH (.bool c) x y K D () () = K (if c then x else y) := pick_bool c x y
theorem nil_ptrH : nilVCH (.pointer (some ad)) K D () () = K (.pointer (some ad)) := nil_ptr 
theorem min_intH : minVCH (.int k a) (.int k' b) K D () () = K (.int k (if b < a then b else a)) := min_int 
theorem max_intH : maxVCH (.int k a) (.int k' b) K D () () = K (.int k (if b > a then b else a)) := max_int 
theorem len_sliceH (base : Option Addr) (n c : Nat) : lenVCH P t (.slice base n c) K D () () = ((elS P t).isSome = true ∧ K (.int .i64 n)) := len_slice base n c
theorem len_strH (s : ByteArray) : lenVCH P t (.string s) K D () () = (P.underlying t = some .string ∧ K (.int .i64 s.size)) := len_str s
theorem cap_sliceH (base : Option Addr) (n c : Nat) : capVCH P t (.slice base n c) K D () () = ((elS P t).isSome = true ∧ K (.int .i64 c)) := cap_slice base n c
theorem lk_mapH (r : Nat) (x : Value) (ok : Bool) : lkVCH Γ t (.map (some r)) x ok L K D () () () = ∃ kd z, mapT Γ.P t = some (kd, z) ∧ ∃ (i : Nat) (es : List MapEntry) (ck : Nat), L[i]? = some (some (r, .map es.toArray ck)) ∧ ∃ fr, Instr.findNow kd x es 0 = some fr ∧ fndKH z ok fr K () := lk_map r x ok
theorem lk_nilH (x : Value) (ok : Bool) : lkVCH Γ t (.map none) x ok L K D () () () = ∃ kd z, mapT Γ.P t = some (kd, z) ∧ fndKH z ok none K () := lk_nil x ok
theorem fnd_someH (z : Option Value) (ok : Bool) (i : Nat) (v : Value) : fndKH z ok (some (i, v)) K () = K (if ok then .tuple #[v, .bool true] else v) := fnd_some z ok i v
theorem cv_intH (s d : TypeId) : cvVCH Γ s d (.int k a) L K2 D D2 () () () () = D2 := cv_int s d
theorem cv_sliceH (s d : TypeId) (A : Option Addr) (n c : Nat) : cvVCH Γ s d (.slice A n c) L K2 D D2 () () () () = D2 := cv_slice s d A n c
theorem fnd_noneH (z : Value) (ok : Bool) : fndKH (some z) ok none K () = K (if ok then .tuple #[z, .bool false] else z) := fnd_none z ok
theorem loadN_zH (i : Nat) (acc : List Value) : loadNH Γ L ad i 0 acc K () () = K (.agg acc.toArray) := rfl
theorem loadN_sH (i n : Nat) (acc : List Value) : loadNH Γ L ad i (n + 1) acc K () () = ∃ v, Cell Γ L (ad.add i) v ∧ loadNH Γ L ad (i + 1) n (acc ++ [v]) K () () := rfl
theorem ldV_H {v : Value} : ldVC Γ t v L K D = ldVCH Γ t v L K D () () () := rfl
theorem ops_H {n : Nat} {ops : Array Oper} {l : List Oper} {Q : Env → Hp → Prop} {T : Env} : VCops Γ n ops l Q T L = VCopsV Γ n ops l Q T L () () () () := rfl
theorem opsV_H {n : Nat} {ops : Array Oper} {l : List Oper} {Q : Env → Hp → Prop} {T : Env} : VCopsV Γ n ops l Q T L () () () () = VCopsH Γ n ops l Q T L () () () () () := rfl
theorem qopsV_H {n : Nat} {ops : Array Oper} {l : List Oper} {Q : Env → Prop} {T : Env} : VQopsV Γ n ops L l Q T () () () () = VQopsH Γ n ops L l Q T () () () () () := rfl
theorem qops_H {n : Nat} {ops : Array Oper} {l : List Oper} {Q : Env → Prop} {T : Env} : VQops Γ n ops L l Q T = VQopsV Γ n ops L l Q T () () () () := rfl
theorem plan_H {n : Nat} {ops : Array Oper} {G : Hp → Hp} {pl : List (Nat × Kd)} {Q : Env → Hp → Prop} {T : Env} : VCplan Γ n ops G pl Q T L = VCplanH Γ n ops G pl Q T L () () () () () := rfl
end
end Go.SX
/-! The words of the walk in one set. -/
namespace Go.SX
open Go.RowKit
theorem w32 {n : Int} (h : -2147483648 ≤ n ∧ n ≤ 2147483647) : IntKind.i32.wrap n = n := by rw [IntKind.wrap_i32]; omega
theorem wu32 {n : Int} (h : 0 ≤ n ∧ n ≤ 4294967295) : IntKind.u32.wrap n = n := by rw [IntKind.wrap_u32]; omega
theorem wu64 {n : Int} (h : 0 ≤ n ∧ n ≤ 18446744073709551615) : IntKind.u64.wrap n = n := by rw [IntKind.wrap_u64]; omega
theorem ltT {a b : Int} (h : a < b) : (a < b) = True := eq_true h
theorem ltF {a b : Int} (h : ¬ a < b) : (a < b) = False := eq_false h
theorem leT {a b : Int} (h : a ≤ b) : (a ≤ b) = True := eq_true h
theorem leF {a b : Int} (h : ¬ a ≤ b) : (a ≤ b) = False := eq_false h
theorem eqT {a b : Int} (h : a = b) : (a = b) = True := eq_true h
theorem eqF {a b : Int} (h : ¬ a = b) : (a = b) = False := eq_false h
attribute [go_sem] ldV_H VQ_moveH VC_moveH VQ_assignH VC_assignH VQ_pickH VC_pickH VQ_loadH VC_loadH VQ_nilCheckH VC_nilCheckH VQ_unOpH VC_unOpH VQ_binOpH VC_binOpH VQ_makeFuncH VC_makeFuncH VQ_fieldAddrH VC_fieldAddrH VQ_fieldH VC_fieldH VQ_indexAddrH VC_indexAddrH VQ_indexH VC_indexH VQ_sliceH VC_sliceH VQ_extractH VC_extractH VQ_buildH VC_buildH VQ_lookupH VC_lookupH VQ_lenH VC_lenH VQ_capH VC_capH VQ_minH VC_minH VQ_maxH VC_maxH VQ_convertH VQ_callH VC_allocH VC_boxH VC_storeH VC_buildSliceH VC_makeSliceH VC_rangeH VC_nextH VC_makeMapH VC_mapUpdateH VC_insertH VC_convertH VC_appendH VC_copyH VC_callH loadVC_eH plan_nilH plan_qH plan_cH plan_eH plan_tH ops_nilH ops_consH qops_nilH qops_consH ops_H qops_H plan_H opsV_H qopsV_H upd_app env0_zero env0_succ env0_nil ev andThen_normal andThen_ret andThen_exit inBlk_normal inBlk_ret inBlk_exit if_true if_false Bool.not_true Bool.not_false Bool.false_eq_true Bool.true_eq_false true_and and_true false_and and_false true_implies forall_const false_implies ne_eq not_true_eq_false not_false_eq_true decide_true decide_false and_self true_or or_true dite_true dite_false Bool.not_eq_true' Bool.not_eq_false' decide_eq_true_eq decide_eq_false_iff_not Decidable.not_not Bool.not_eq_true Bool.not_eq_false Int.natCast_inj beq_self_eq_true Bool.and_true Bool.true_and Bool.and_self Bool.and_false Bool.false_and eq_self less_refl_t less_drop_t Option.map_some Option.map_none Option.bind_some Option.bind_none Option.isSome_some Option.isSome_none Option.some.injEq List.getElem?_cons_zero List.getElem?_cons_succ List.getElem?_nil List.getElem?_toArray List.map_cons List.map_nil List.map_toArray List.toList_toArray List.append_toArray List.nil_append List.cons_append List.append_nil List.flatMap_cons List.flatMap_nil List.length_cons List.length_nil List.set_cons_zero List.set_cons_succ List.drop_zero List.drop_succ_cons List.take_succ_cons List.take_zero List.size_toArray Nat.add_zero Nat.zero_add Nat.mul_one exists_const Nat.zero_le Nat.le_refl Int.toNat_natCast Int.toNat_zero Int.toNat_one cells_int cells_bool cells_string cells_pointer cells_slice cells_agg oneB_nil oneB_cons one_int one_bool one_string one_pointer one_slice one_map one_func one_nilFunc one_nilIface one_iface cells_map cells_func cells_nilFunc cells_nilIface cells_iface optI placeL setN store_eH inOrd catV bin_addH bin_subH bin_mulH bin_quoH bin_remH bin_andH bin_orH bin_xorH bin_andNotH bin_shlH bin_shrH bin_eqlH bin_neqH bin_lssH bin_leqH bin_gtrH bin_geqH bin_eqlbH bin_neqbH bin_addsH bin_eqlsH bin_neqsH un_notH un_negH un_xorH pick_boolH nil_ptrH min_intH max_intH istr_eH len_sliceH len_strH cap_sliceH cv_intH cv_sliceH kbits_u8 kbits_u16 kbits_i64 kbits_u64 part_eH fa_eH field_eH index_eH ext_eH ia_anyH ia_ptrH intD_intH conv_eH sl_strH sl_slH sl_arr0H sl_arr1H build_eH mk_eH cv_eH oM_someH oM_noneH gB_boolH guard_noneH guard_someH put_noneH put_someH strD_stringH box_eH bs_eH cvD_sliceH cvD_stringH ld_eH st_eH call_eH qcall_eH rg_eH nx_eH mu_eH lk_mapH lk_nilH fnd_someH fnd_noneH bin_eqlpnH bin_neqpnH bin_eqlppH bin_neqppH bin_eqlsnH bin_neqsnH eqla_eH neqa_eH Option.isNone_some Option.isNone_none evP_nil evP_cons fillK_nilH fillK_consH id_eq loadN_sH
attribute [go_sem] add_addS wu8 wu16 w32 wu32 wu64 w64 ltT ltF leT leF eqT eqF loadN_zH loadN_sH
attribute [go_sem] Nat.reduceEqDiff Nat.reduceBEq reduceCtorEq Int.reduceEq Nat.reduceLT Nat.reduceLeDiff Nat.reduceAdd Nat.reduceMul Nat.reduceSub Int.reduceToNat Int.reduceLT Int.reduceLE Int.reduceAdd Int.reduceSub Int.reduceMul Int.reduceNeg Nat.reducePow Int.reducePow
attribute [go_sem ↓] reduceIte
end Go.SX
namespace Go.Proofs.YtpakphgeichopaaDoor
attribute [go_sem] T.szA_1 T.zr_1 Tryd.underlying1 T.szA_2 T.zr_2 Tryd.underlying2 T.szA_3 T.zr_3 Tryd.underlying3 T.szA_4 T.zr_4 Tryd.underlying4 T.szA_5 T.zr_5 Tryd.underlying5 T.szA_6 T.zr_6 Tryd.underlying6 T.szA_7 T.zr_7 T.lay_7 T.elA_7 Tryd.underlying7 T.szA_8 T.zr_8 T.lay_8 T.elA_8 Tryd.underlying8 T.szA_9 T.zr_9 Tryd.underlying9 T.szA_10 T.zr_10 Tryd.underlying10 T.szA_11 T.zr_11 Tryd.underlying11 T.szA_12 T.zr_12 Tryd.underlying12 T.szA_13 T.zr_13 T.lay_13 T.elA_13 Tryd.underlying13 T.szA_14 T.zr_14 T.lay_14 T.elA_14 Tryd.underlying14 T.szA_15 T.zr_15 T.ptB_15 Tryd.underlying15 T.szA_16 T.zr_16 T.ptB_16 Tryd.underlying16 T.szA_17 T.zr_17 T.ptB_17 Tryd.underlying17 T.szA_18 T.zr_18 T.lay_18 T.elA_18 Tryd.underlying18 T.szA_19 T.zr_19 T.lay_19 T.elA_19 Tryd.underlying19 T.szA_20 T.zr_20 Tryd.underlying20 T.szA_21 T.zr_21 Tryd.underlying21 T.szA_22 T.zr_22 Tryd.underlying22 T.szA_23 T.zr_23 T.lay_23 T.elA_23 Tryd.underlying23 T.szA_24 T.zr_24 T.lay_24 T.elA_24 Tryd.underlying24 T.szA_25 T.zr_25 T.elS_25 Tryd.underlying25 T.szA_26 T.zr_26 Tryd.underlying26 T.szA_27 T.zr_27 Tryd.underlying27 T.szA_28 T.zr_28 T.lay_28 T.elA_28 Tryd.underlying28 T.szA_29 T.zr_29 T.lay_29 T.elA_29 Tryd.underlying29 T.szA_30 T.zr_30 T.elS_30 Tryd.underlying30 T.szA_31 T.zr_31 Tryd.underlying31 T.szA_33 T.zr_33 Tryd.underlying33 T.szA_34 T.zr_34 Tryd.underlying34 T.szA_35 T.zr_35 Tryd.underlying35 T.szA_36 T.zr_36 Tryd.underlying36 T.szA_37 T.zr_37 Tryd.underlying37 T.szA_38 T.zr_38 Tryd.underlying38 T.szA_39 T.zr_39 T.elS_39 Tryd.underlying39 T.szA_40 T.zr_40 T.lay_40 T.elA_40 Tryd.underlying40 T.szA_41 T.zr_41 T.lay_41 T.elA_41 Tryd.underlying41 T.szA_42 T.zr_42 Tryd.underlying42 T.szA_44 T.zr_44 Tryd.underlying44 T.szA_45 T.zr_45 T.lay_45 T.elA_45 Tryd.underlying45 T.szA_46 T.zr_46 T.lay_46 T.elA_46 Tryd.underlying46 T.szA_47 T.zr_47 Tryd.underlying47 T.szA_48 T.zr_48 T.lay_48 T.elA_48 Tryd.underlying48 T.szA_49 T.zr_49 T.lay_49 T.elA_49 Tryd.underlying49 T.szA_50 T.zr_50 T.elS_50 Tryd.underlying50 T.szA_51 T.zr_51 Tryd.underlying51 T.szA_52 T.zr_52 Tryd.underlying52 T.szA_54 T.zr_54 Tryd.underlying54 T.szA_55 T.zr_55 Tryd.underlying55 T.szA_57 T.zr_57 Tryd.underlying57 T.szA_58 T.zr_58 Tryd.underlying58 T.szA_59 T.zr_59 Tryd.underlying59 T.szA_60 T.zr_60 Tryd.underlying60 T.szA_61 T.zr_61 Tryd.underlying61 T.szA_62 T.zr_62 Tryd.underlying62 T.szA_63 T.zr_63 T.ptB_63 Tryd.underlying63 T.szA_64 T.zr_64 Tryd.underlying64 T.szA_65 T.zr_65 Tryd.underlying65 T.szA_66 T.zr_66 Tryd.underlying66 T.szA_67 T.zr_67 Tryd.underlying67 T.szA_68 T.zr_68 Tryd.underlying68 T.szA_69 T.zr_69 T.elS_69 Tryd.underlying69 T.szA_70 T.zr_70 T.ptB_70 Tryd.underlying70 T.szA_71 T.zr_71 T.lay_71 T.elA_71 Tryd.underlying71 T.szA_72 T.zr_72 T.lay_72 T.elA_72 Tryd.underlying72 T.szA_73 T.zr_73 Tryd.underlying73 T.szA_74 T.zr_74 Tryd.underlying74 T.szA_75 T.zr_75 Tryd.underlying75 T.szA_76 T.zr_76 Tryd.underlying76 T.szA_77 T.zr_77 Tryd.underlying77 T.szA_78 T.zr_78 Tryd.underlying78 T.szA_79 T.zr_79 T.elA_79 T.lay_79 Tryd.underlying79 T.szA_81 T.zr_81 Tryd.underlying81 T.szA_82 T.zr_82 Tryd.underlying82 T.szA_83 T.zr_83 T.elS_83 Tryd.underlying83 T.szA_85 T.zr_85 Tryd.underlying85 T.szA_86 T.zr_86 Tryd.underlying86 T.szA_87 T.zr_87 Tryd.underlying87 T.szA_88 T.zr_88 T.elS_88 Tryd.underlying88 T.szA_89 T.zr_89 T.elA_89 T.lay_89 Tryd.underlying89 T.szA_90 T.zr_90 T.elA_90 T.lay_90 Tryd.underlying90 T.szA_91 T.zr_91 Tryd.underlying91 T.szA_92 T.zr_92 Tryd.underlying92 T.szA_93 T.zr_93 T.ptB_93 Tryd.underlying93 T.szA_94 T.zr_94 Tryd.underlying94 T.szA_95 T.zr_95 Tryd.underlying95 T.szA_96 T.zr_96 Tryd.underlying96 T.szA_97 T.zr_97 Tryd.underlying97 T.szA_98 T.zr_98 Tryd.underlying98 T.szA_99 T.zr_99 Tryd.underlying99 T.szA_100 T.zr_100 Tryd.underlying100 T.szA_102 T.zr_102 Tryd.underlying102 T.szA_103 T.zr_103 T.lay_103 T.elA_103 Tryd.underlying103 T.szA_104 T.zr_104 T.lay_104 T.elA_104 Tryd.underlying104 T.szA_105 T.zr_105 T.elA_105 T.lay_105 Tryd.underlying105 T.szA_106 T.zr_106 T.lay_106 T.elA_106 Tryd.underlying106 T.szA_107 T.zr_107 T.lay_107 T.elA_107 Tryd.underlying107 T.szA_108 T.zr_108 Tryd.underlying108 T.szA_109 T.zr_109 Tryd.underlying109 T.szA_110 T.zr_110 Tryd.underlying110 T.szA_111 T.zr_111 Tryd.underlying111 T.szA_112 T.zr_112 Tryd.underlying112 T.szA_113 T.zr_113 Tryd.underlying113 T.szA_114 T.zr_114 T.lay_114 T.elA_114 Tryd.underlying114 T.szA_115 T.zr_115 T.lay_115 T.elA_115 Tryd.underlying115 T.callable_2 T.callable_3 T.callable_4 T.callable_5 T.callable_6 T.callable_7 T.callable_8 T.callable_9 T.callable_10 T.callable_11 T.callable_12 T.callable_13 T.callable_14 T.callable_15 T.callable_16 T.callable_17 T.callable_18 T.callable_19 T.callable_20 T.callable_21 T.callable_22 T.callable_23 T.callable_24 T.callable_25 T.callable_26 T.callable_27 T.callable_28 T.callable_29 T.callable_30 T.callable_31 T.callable_32 T.callable_33 T.callable_34 T.callable_35 T.callable_36 T.callable_37 T.callable_38 T.callable_39 T.callable_40 T.callable_41 T.callable_42 T.callable_43 T.callable_44 T.callable_45 T.callable_46 T.callable_47 T.callable_48 T.callable_49 T.callable_50 T.callable_51 T.callable_52 T.callable_53 T.callable_55 T.callable_56 T.callable_58 T.callable_59 T.callable_61 T.callable_83
end Go.Proofs.YtpakphgeichopaaDoor
set_option linter.unusedVariables false
set_option linter.unusedSimpArgs false
/-! The last step of a law, the first world's shape being known (what the library's own variables hold). -/
namespace Go.SX
open Go.ChangeShapes Go.WideShapes Go.ChangeAt Go.RowKit
/-- .. a world that has grown. -/
theorem SCall.of_below {Γ : Ctx} {f : FuncId} {args : Array Value} {L : Hp} {v : Value} (h : ∀ w, Inv Γ L w → Calls Γ.P f args w fun e w' => e = .returned v ∧ Below w.heap.size w w') : SCall Γ f args L (fun v' L' => v' = v ∧ L' = L) := fun w hi =>
  (h w hi).mono fun e w' ⟨he, hw⟩ => ⟨v, L, he, hi.of_below hw, rfl, rfl⟩
theorem Cell.w0 {Γ : Ctx} {L : Hp} {w : World} {a : Addr} {v : Value} (ho : a.block ∉ Γ.own) (h : Γ.w0.cell? a = some v) (hi : Inv Γ L w) : w.cell? a = some v := (Cell.old (L := L) ho h).real hi
end Go.SX
set_option linter.unusedVariables false
set_option linter.unusedSimpArgs false
namespace Go.Proofs.YtpakphgeichopaaDoor
open Go.RowKit Go.SX
open Go.SX renaming ia_someH → Φa

/-! Frames: what they are made of; the small functions. -/
theorem gB_undefH (want : Bool) (Y N F : Prop) : gBH undef want Y N F () () () = F := rfl
attribute [go_sem] gB_undefH
theorem ia_at {P : Program} {t : TypeId} {k : IntKind} {a : Int} {A : Option Addr} {a1 : Addr} {len cap : Nat} {K : Value → Prop} {D : Prop} (h : 0 < len → A = some a1) :
    indexAddrVCH P t (.slice A len cap) (.int k a) K D () () = oMH (elS P t) (fun p => (0 ≤ a ∧ a < len) ∧ K (.pointer (some (a1.add (a.toNat * p.2.1))))) D () () := by
  by_cases h0 : 0 < len
  · rw [h h0, ia_someH]
  · have e0 : ¬ (0 ≤ a ∧ a < (len : Int)) := by omega
    show indexAddrVC P t (.slice A len cap) (.int k a) K D = oM (elS P t) (fun p => (0 ≤ a ∧ a < len) ∧ K (.pointer (some (a1.add (a.toNat * p.2.1))))) D
    unfold indexAddrVC oM
    cases elS P t with
    | none => rfl
    | some p => simp only [e0, false_and]
theorem getD_get {α : Type} {l : List α} {j : Nat} {d : α} (h : j < l.length) : l[j]? = some (l.getD j d) := by
  rw [List.getD_eq_getElem?_getD, List.getElem?_eq_getElem h]; rfl
section
variable {α : Type} {sz : Nat} {R : (Addr → Value → Prop) → Addr → α → Prop} {C C' : Addr → Value → Prop} {v : Value} {xs : List α}
theorem Sl.shape (h : Sl sz R C v xs) : ∃ A c, v = .slice A xs.length c ∧ xs.length ≤ c := by
  obtain ⟨A, c, h1, h2, _⟩ := h
  exact ⟨A, c, h1, h2⟩
theorem Sl.mono (hR : ∀ a x, R C a x → R C' a x) (h : Sl sz R C v xs) : Sl sz R C' v xs := by
  obtain ⟨A, c, h1, h2, h3⟩ := h
  exact ⟨A, c, h1, h2, fun j x hj => let ⟨a, e1, e2⟩ := h3 j x hj; ⟨a, e1, hR _ _ e2⟩⟩
theorem Sl.at1 {A : Option Addr} {n c : Nat} (h : Sl sz R C (.slice A n c) xs) : ∃ a1 : Addr, (0 < n → A = some a1) ∧ n = xs.length ∧ ∀ (j : Nat) (x : α), xs[j]? = some x → R C (a1.add (j * sz)) x := by
  obtain ⟨A', c', he, hc, hA⟩ := h
  injection he with e1 e2 e3
  subst e1 e2
  by_cases h0 : 0 < xs.length
  · obtain ⟨a, e, _⟩ := hA 0 _ (List.getElem?_eq_getElem h0)
    refine ⟨a, fun _ => e, rfl, fun j x hj => ?_⟩
    obtain ⟨b, e', hb⟩ := hA j _ hj
    rw [e] at e'
    cases e'
    exact hb
  · refine ⟨⟨0, 0, none⟩, fun h => absurd h h0, rfl, fun j x hj => ?_⟩
    have := (List.getElem?_eq_some_iff.1 hj).1
    omega
end
theorem SlI.mono {k : IntKind} {C C' : Addr → Value → Prop} {v : Value} {xs : List Int} (hC : ∀ a v, C a v → C' a v) (h : SlI k C v xs) : SlI k C' v xs := Sl.mono (fun _ _ h => hC _ _ h) h
/-- A record. -/
structure Rc where
  code : Int
  ad : Int
  data : Int
  rd : Bool
  wr : Bool
  port : Int
  q : Bool
  md : Int
instance : Inhabited Rc := ⟨⟨0, 0, 0, false, false, 0, false, 0⟩⟩
def Rc.cells (x : Rc) : List Value := [.int .u8 x.code, .int .u16 x.ad, .int .u8 x.data, .bool x.rd, .bool x.wr, .int .u8 x.port, .bool x.q, .int .u8 x.md]
theorem Rc.len (x : Rc) : x.cells.length = 8 := rfl
abbrev SlC (C : Addr → Value → Prop) (v : Value) (l : List Rc) : Prop := SlS 8 Rc.cells C v l
theorem SlC.mono {C C' : Addr → Value → Prop} {v : Value} {l : List Rc} (hC : ∀ a v, C a v → C' a v) (h : SlC C v l) : SlC C' v l := Sl.mono (fun _ _ h i u hu => hC _ _ (h i u hu)) h
/-- Rows of bytes. -/
def RRow (C : Addr → Value → Prop) (a : Addr) (r : List Int) : Prop := ∃ v, C a v ∧ SlI .u8 C v r
abbrev SlR (C : Addr → Value → Prop) (v : Value) (l : List (List Int)) : Prop := Sl 1 RRow C v l
theorem RRow.mono {C C' : Addr → Value → Prop} {a : Addr} {r : List Int} (hC : ∀ a v, C a v → C' a v) (h : RRow C a r) : RRow C' a r := let ⟨v, h1, h2⟩ := h; ⟨v, hC _ _ h1, SlI.mono hC h2⟩
theorem SlR.mono {C C' : Addr → Value → Prop} {v : Value} {l : List (List Int)} (hC : ∀ a v, C a v → C' a v) (h : SlR C v l) : SlR C' v l := Sl.mono (fun _ _ h => RRow.mono hC h) h
/-- A frame. -/
structure Fm where
  at_ : Int
  rows : List (List Int)
  sh : Bool
instance : Inhabited Fm := ⟨⟨0, [], false⟩⟩
def Fm.cells (f : Fm) (rv : Value) : List Value := [.int .i64 f.at_, rv, .bool f.sh]
def RFm (C : Addr → Value → Prop) (a : Addr) (f : Fm) : Prop := ∃ rv, (∀ i u, (f.cells rv)[i]? = some u → C (a.add i) u) ∧ SlR C rv f.rows
abbrev SlF (C : Addr → Value → Prop) (v : Value) (l : List Fm) : Prop := Sl 3 RFm C v l
theorem SlF.mono {C C' : Addr → Value → Prop} {v : Value} {l : List Fm} (hC : ∀ a v, C a v → C' a v) (h : SlF C v l) : SlF C' v l := Sl.mono (fun _ _ ⟨rv, h1, h2⟩ => ⟨rv, fun i u hu => hC _ _ (h1 i u hu), SlR.mono hC h2⟩) h
def cnt : List (List Int) → Nat
  | [] => 0
  | r :: l => r.length + cnt l
theorem cnt_app : ∀ l m : List (List Int), cnt (l ++ m) = cnt l + cnt m
  | [], m => by simp [cnt]
  | r :: l, m => by rw [List.cons_append, cnt, cnt, cnt_app l m]; omega
theorem cnt_take {l : List (List Int)} {k : Nat} (h : k < l.length) : cnt (l.take (k + 1)) = cnt (l.take k) + (l.getD k []).length := by
  rw [List.take_add_one, getD_get (d := []) h, cnt_app]
  rfl
theorem cnt_take_le (l : List (List Int)) (k : Nat) : cnt (l.take k) ≤ cnt l := by
  conv => rhs; rw [← List.take_append_drop k l, cnt_app]
  omega
def mayB (x : Rc) : Bool := decide (x.code ≤ 3) && decide (x.port ≤ 7) && decide (x.md ≤ 3) && !(x.rd && x.wr)
set_option maxHeartbeats 1000000 in
set_option maxRecDepth 100000 in
theorem may_spec {Γ : Ctx} (hP : Γ.P = Tryd.prog) {L : Hp} {x : Rc} :
    SCall Γ 28 #[(.agg x.cells.toArray)] L (fun v L' => v = .bool (mayB x) ∧ L' = L) := by
  refine SCall.enter (n := 25) (res1 2) (hP ▸ Tryd.func28) rfl rfl (by simp) (res1_ok rfl) ?_
  refine SX.seq_k fun K1 hK1 => ?_
  refine SX.region_d [some 1, some 2] rfl (fun ops hops => ?_)
  unfold Dsts at hops
  simp (maxSteps:=1000000)(dsimp:=false)(disch:=omega) only [go_sem, Φa, hP, hops]
  intro b0
  try with_reducible refine stI ?_
  try simp (maxSteps:=1000000)(dsimp:=false)(disch:=omega) only [go_sem, Φa, hP, hops]
  refine hK1 _ _ ?_
  try clear hK1 K1
  refine SX.seq_k fun K2 hK2 => ?_
  refine SX.region_xd [some 3, some 4, some 5, some 6, some 7, some 8, some 9, some 10, some 11, some 12, some 13, some 14, some 15, some 16, some 17, some 18, some 19, some 20, some 21, some 22, some 23, some 24, some 2] rfl (fun ops hops => ?_)
  unfold Dsts at hops
  refine RX.live [1] (fun T1 hT1 => ?_)
  simp only [forall_mem_cons', forall_mem_nil', go_sem, Φa, hP] at hT1
  have h1_1 := hT1; clear hT1
  refine RX.join 8 (fun (ss : Unit) T L' => T 10 = .bool (decide (x.code ≤ 3) && decide (x.port ≤ 7)) ∧ T 1 = T1 1 ∧ L' = some (b0, .cells x.cells.toArray 29 (0, 0)) :: L ∧ (True)) (fun K3 hK3 => ?_) ?_
  · simp only [h1_1] at hK3
    simp (maxSteps:=1000000)(dsimp:=false)(disch:=omega) only [go_sem, Φa, hP, h1_1, hops]
    repeat' (first | refine iteB (fun hg => ?_) (fun hg => ?_) | refine iteI (fun hg => ?_) (fun hg => ?_) | ((first | refine ⟨_, Cell.at 0 rfl (show (Rc.cells _)[0]? = _ from rfl), ?_⟩ | refine ⟨_, Cell.at 0 rfl (show (Rc.cells _)[5]? = _ from rfl), ?_⟩ | refine ⟨_, Cell.at 0 rfl (show (Rc.cells _)[7]? = _ from rfl), ?_⟩ | refine ⟨_, Cell.at 0 rfl (show (Rc.cells _)[3]? = _ from rfl), ?_⟩ | refine ⟨_, Cell.at 0 rfl (show (Rc.cells _)[4]? = _ from rfl), ?_⟩ | refine And.intro (by omega) ?_ | refine ⟨_, Cell.at 0 rfl rfl, ?_⟩ | fail); try (with_reducible refine stI ?_); try simp (maxSteps:=1000000)(dsimp:=false)(disch:=omega) only [go_sem, Φa, hP, h1_1, hops]) | fail)
    all_goals
      refine hK3 () _ (some (b0, .cells x.cells.toArray 29 (0, 0)) :: L) _ (by first | exact Less.refl _ | exact Less.drop _ _ | exact Less.drops (Less.drop _ _) | exact Less.drops (Less.drops (Less.drop _ _)) | exact Less.drops (Less.drops (Less.drops (Less.drop _ _))) | exact Less.drops (Less.drops (Less.drops (Less.drops (Less.drop _ _))))) ?_
      try dsimp only
      refine ⟨?_, ?_, ?_, ?_⟩
      · simp (maxSteps:=1000000)(dsimp:=false)(disch:=omega) only [go_sem, Φa, hP, h1_1]
        first | done | (refine congrArg Value.bool ?_; simp_all [mayB]; done) | (refine congrArg Value.bool ?_; simp_all [mayB]; omega)
      · simp (maxSteps:=1000000)(dsimp:=false)(disch:=omega) only [go_sem, Φa, hP, h1_1]
      · rfl
      · trivial
  · intro ss T2 L2 hI
    simp only [h1_1] at hI 
    obtain ⟨h2_10, h2_1, hL2, hinv⟩ := hI
    replace hL2 := hL2.symm
    subst hL2
    clear h1_1 T1
    refine RX.live [1, 10] (fun T3 hT3 => ?_)
    simp only [forall_mem_cons', forall_mem_nil', go_sem, Φa, hP, h2_10, h2_1] at hT3
    obtain ⟨h3_1, h3_10⟩ := hT3
    clear h2_10 h2_1 T2
    refine RX.join 5 (fun (ss : Unit) T L' => T 15 = .bool (decide (x.code ≤ 3) && decide (x.port ≤ 7) && decide (x.md ≤ 3)) ∧ T 1 = T3 1 ∧ L' = some (b0, .cells x.cells.toArray 29 (0, 0)) :: L ∧ (True)) (fun K4 hK4 => ?_) ?_
    · simp only [h3_1] at hK4
      simp (maxSteps:=1000000)(dsimp:=false)(disch:=omega) only [go_sem, Φa, hP, h3_1, h3_10, hops]
      repeat' (first | refine iteB (fun hg => ?_) (fun hg => ?_) | refine iteI (fun hg => ?_) (fun hg => ?_) | ((first | refine ⟨_, Cell.at 0 rfl (show (Rc.cells _)[0]? = _ from rfl), ?_⟩ | refine ⟨_, Cell.at 0 rfl (show (Rc.cells _)[5]? = _ from rfl), ?_⟩ | refine ⟨_, Cell.at 0 rfl (show (Rc.cells _)[7]? = _ from rfl), ?_⟩ | refine ⟨_, Cell.at 0 rfl (show (Rc.cells _)[3]? = _ from rfl), ?_⟩ | refine ⟨_, Cell.at 0 rfl (show (Rc.cells _)[4]? = _ from rfl), ?_⟩ | refine And.intro (by omega) ?_ | refine ⟨_, Cell.at 0 rfl rfl, ?_⟩ | fail); try (with_reducible refine stI ?_); try simp (maxSteps:=1000000)(dsimp:=false)(disch:=omega) only [go_sem, Φa, hP, h3_1, h3_10, hops]) | fail)
      all_goals
        refine hK4 () _ (some (b0, .cells x.cells.toArray 29 (0, 0)) :: L) _ (by first | exact Less.refl _ | exact Less.drop _ _ | exact Less.drops (Less.drop _ _) | exact Less.drops (Less.drops (Less.drop _ _)) | exact Less.drops (Less.drops (Less.drops (Less.drop _ _))) | exact Less.drops (Less.drops (Less.drops (Less.drops (Less.drop _ _))))) ?_
        try dsimp only
        refine ⟨?_, ?_, ?_, ?_⟩
        · simp (maxSteps:=1000000)(dsimp:=false)(disch:=omega) only [go_sem, Φa, hP, h3_1, h3_10]
          first | done | (refine congrArg Value.bool ?_; simp_all [mayB]; done) | (refine congrArg Value.bool ?_; simp_all [mayB]; omega)
        · simp (maxSteps:=1000000)(dsimp:=false)(disch:=omega) only [go_sem, Φa, hP, h3_1, h3_10]
        · rfl
        · trivial
    · intro ss T4 L4 hI
      simp only [h3_1] at hI 
      obtain ⟨h4_15, h4_1, hL4, hinv⟩ := hI
      replace hL4 := hL4.symm
      subst hL4
      clear h3_1 h3_10 T3
      refine RX.live [1, 15] (fun T5 hT5 => ?_)
      simp only [forall_mem_cons', forall_mem_nil', go_sem, Φa, hP, h4_15, h4_1] at hT5
      obtain ⟨h5_1, h5_15⟩ := hT5
      clear h4_15 h4_1 T4
      refine RX.join 9 (fun (ss : Unit) T L' => T 24 = .bool (mayB x) ∧ L' = some (b0, .cells x.cells.toArray 29 (0, 0)) :: L ∧ (True)) (fun K5 hK5 => ?_) ?_
      · simp (maxSteps:=1000000)(dsimp:=false)(disch:=omega) only [go_sem, Φa, hP, h5_1, h5_15, hops]
        repeat' (first | refine iteB (fun hg => ?_) (fun hg => ?_) | refine iteI (fun hg => ?_) (fun hg => ?_) | ((first | refine ⟨_, Cell.at 0 rfl (show (Rc.cells _)[0]? = _ from rfl), ?_⟩ | refine ⟨_, Cell.at 0 rfl (show (Rc.cells _)[5]? = _ from rfl), ?_⟩ | refine ⟨_, Cell.at 0 rfl (show (Rc.cells _)[7]? = _ from rfl), ?_⟩ | refine ⟨_, Cell.at 0 rfl (show (Rc.cells _)[3]? = _ from rfl), ?_⟩ | refine ⟨_, Cell.at 0 rfl (show (Rc.cells _)[4]? = _ from rfl), ?_⟩ | refine And.intro (by omega) ?_ | refine ⟨_, Cell.at 0 rfl rfl, ?_⟩ | fail); try (with_reducible refine stI ?_); try simp (maxSteps:=1000000)(dsimp:=false)(disch:=omega) only [go_sem, Φa, hP, h5_1, h5_15, hops]) | fail)
        all_goals
          refine hK5 () _ (some (b0, .cells x.cells.toArray 29 (0, 0)) :: L) _ (by first | exact Less.refl _ | exact Less.drop _ _ | exact Less.drops (Less.drop _ _) | exact Less.drops (Less.drops (Less.drop _ _)) | exact Less.drops (Less.drops (Less.drops (Less.drop _ _))) | exact Less.drops (Less.drops (Less.drops (Less.drops (Less.drop _ _))))) ?_
          try dsimp only
          refine ⟨?_, ?_, ?_⟩
          · simp (maxSteps:=1000000)(dsimp:=false)(disch:=omega) only [go_sem, Φa, hP, h5_1, h5_15]
            first | done | (refine congrArg Value.bool ?_; simp_all [mayB]; done) | (refine congrArg Value.bool ?_; simp_all [mayB]; omega)
          · rfl
          · trivial
      · intro ss T6 L6 hI
        obtain ⟨h6_24, hL6, hinv⟩ := hI
        replace hL6 := hL6.symm
        subst hL6
        clear h5_1 h5_15 T5
        refine RX.done ?_
        simp (maxSteps:=1000000)(dsimp:=false)(disch:=omega) only [go_sem, Φa, hP, h6_24, hops]
        refine hK2 _ _ ?_
        try clear hK2 K2
        refine SX.ret ?_
        simp only [andThen_normal, andThen_ret, andThen_exit, inBlk_normal, inBlk_ret, inBlk_exit, Nat.reduceEqDiff, if_true, if_false, ↓reduceIte, retQ_ret]
        try simp only [res0, res1, res2, res3, stK_e, go_sem, Φa, hP, h6_24]
        exact ⟨_, _, Less.drop _ _, rfl, rfl, rfl⟩
set_option maxHeartbeats 1000000 in
set_option maxRecDepth 100000 in
theorem refMay_spec {Γ : Ctx} (hP : Γ.P = Tryd.prog) {L : Hp} {x : Rc} :
    SCall Γ 50 #[(.agg x.cells.toArray)] L (fun v L' => v = .bool (mayB x) ∧ L' = L) := by
  refine SCall.enter (n := 25) (res1 2) (hP ▸ Tryd.func50) rfl rfl (by simp) (res1_ok rfl) ?_
  refine SX.seq_k fun K1 hK1 => ?_
  refine SX.region_d [some 1, some 2] rfl (fun ops hops => ?_)
  unfold Dsts at hops
  simp (maxSteps:=1000000)(dsimp:=false)(disch:=omega) only [go_sem, Φa, hP, hops]
  intro b0
  try with_reducible refine stI ?_
  try simp (maxSteps:=1000000)(dsimp:=false)(disch:=omega) only [go_sem, Φa, hP, hops]
  refine hK1 _ _ ?_
  try clear hK1 K1
  refine SX.seq_k fun K2 hK2 => ?_
  refine SX.region_xd [some 3, some 4, some 5, some 6, some 7, some 8, some 9, some 10, some 11, some 12, some 13, some 14, some 15, some 16, some 17, some 18, some 19, some 20, some 21, some 22, some 23, some 24, some 2] rfl (fun ops hops => ?_)
  unfold Dsts at hops
  refine RX.live [1] (fun T1 hT1 => ?_)
  simp only [forall_mem_cons', forall_mem_nil', go_sem, Φa, hP] at hT1
  have h1_1 := hT1; clear hT1
  refine RX.join 8 (fun (ss : Unit) T L' => T 10 = .bool (decide (x.code ≤ 3) && decide (x.port ≤ 7)) ∧ T 1 = T1 1 ∧ L' = some (b0, .cells x.cells.toArray 29 (0, 0)) :: L ∧ (True)) (fun K3 hK3 => ?_) ?_
  · simp only [h1_1] at hK3
    simp (maxSteps:=1000000)(dsimp:=false)(disch:=omega) only [go_sem, Φa, hP, h1_1, hops]
    repeat' (first | refine iteB (fun hg => ?_) (fun hg => ?_) | refine iteI (fun hg => ?_) (fun hg => ?_) | ((first | refine ⟨_, Cell.at 0 rfl (show (Rc.cells _)[0]? = _ from rfl), ?_⟩ | refine ⟨_, Cell.at 0 rfl (show (Rc.cells _)[5]? = _ from rfl), ?_⟩ | refine ⟨_, Cell.at 0 rfl (show (Rc.cells _)[7]? = _ from rfl), ?_⟩ | refine ⟨_, Cell.at 0 rfl (show (Rc.cells _)[3]? = _ from rfl), ?_⟩ | refine ⟨_, Cell.at 0 rfl (show (Rc.cells _)[4]? = _ from rfl), ?_⟩ | refine And.intro (by omega) ?_ | refine ⟨_, Cell.at 0 rfl rfl, ?_⟩ | fail); try (with_reducible refine stI ?_); try simp (maxSteps:=1000000)(dsimp:=false)(disch:=omega) only [go_sem, Φa, hP, h1_1, hops]) | fail)
    all_goals
      refine hK3 () _ (some (b0, .cells x.cells.toArray 29 (0, 0)) :: L) _ (by first | exact Less.refl _ | exact Less.drop _ _ | exact Less.drops (Less.drop _ _) | exact Less.drops (Less.drops (Less.drop _ _)) | exact Less.drops (Less.drops (Less.drops (Less.drop _ _))) | exact Less.drops (Less.drops (Less.drops (Less.drops (Less.drop _ _))))) ?_
      try dsimp only
      refine ⟨?_, ?_, ?_, ?_⟩
      · simp (maxSteps:=1000000)(dsimp:=false)(disch:=omega) only [go_sem, Φa, hP, h1_1]
        first | done | (refine congrArg Value.bool ?_; simp_all [mayB]; done) | (refine congrArg Value.bool ?_; simp_all [mayB]; omega)
      · simp (maxSteps:=1000000)(dsimp:=false)(disch:=omega) only [go_sem, Φa, hP, h1_1]
      · rfl
      · trivial
  · intro ss T2 L2 hI
    simp only [h1_1] at hI 
    obtain ⟨h2_10, h2_1, hL2, hinv⟩ := hI
    replace hL2 := hL2.symm
    subst hL2
    clear h1_1 T1
    refine RX.live [1, 10] (fun T3 hT3 => ?_)
    simp only [forall_mem_cons', forall_mem_nil', go_sem, Φa, hP, h2_10, h2_1] at hT3
    obtain ⟨h3_1, h3_10⟩ := hT3
    clear h2_10 h2_1 T2
    refine RX.join 5 (fun (ss : Unit) T L' => T 15 = .bool (decide (x.code ≤ 3) && decide (x.port ≤ 7) && decide (x.md ≤ 3)) ∧ T 1 = T3 1 ∧ L' = some (b0, .cells x.cells.toArray 29 (0, 0)) :: L ∧ (True)) (fun K4 hK4 => ?_) ?_
    · simp only [h3_1] at hK4
      simp (maxSteps:=1000000)(dsimp:=false)(disch:=omega) only [go_sem, Φa, hP, h3_1, h3_10, hops]
      repeat' (first | refine iteB (fun hg => ?_) (fun hg => ?_) | refine iteI (fun hg => ?_) (fun hg => ?_) | ((first | refine ⟨_, Cell.at 0 rfl (show (Rc.cells _)[0]? = _ from rfl), ?_⟩ | refine ⟨_, Cell.at 0 rfl (show (Rc.cells _)[5]? = _ from rfl), ?_⟩ | refine ⟨_, Cell.at 0 rfl (show (Rc.cells _)[7]? = _ from rfl), ?_⟩ | refine ⟨_, Cell.at 0 rfl (show (Rc.cells _)[3]? = _ from rfl), ?_⟩ | refine ⟨_, Cell.at 0 rfl (show (Rc.cells _)[4]? = _ from rfl), ?_⟩ | refine And.intro (by omega) ?_ | refine ⟨_, Cell.at 0 rfl rfl, ?_⟩ | fail); try (with_reducible refine stI ?_); try simp (maxSteps:=1000000)(dsimp:=false)(disch:=omega) only [go_sem, Φa, hP, h3_1, h3_10, hops]) | fail)
      all_goals
        refine hK4 () _ (some (b0, .cells x.cells.toArray 29 (0, 0)) :: L) _ (by first | exact Less.refl _ | exact Less.drop _ _ | exact Less.drops (Less.drop _ _) | exact Less.drops (Less.drops (Less.drop _ _)) | exact Less.drops (Less.drops (Less.drops (Less.drop _ _))) | exact Less.drops (Less.drops (Less.drops (Less.drops (Less.drop _ _))))) ?_
        try dsimp only
        refine ⟨?_, ?_, ?_, ?_⟩
        · simp (maxSteps:=1000000)(dsimp:=false)(disch:=omega) only [go_sem, Φa, hP, h3_1, h3_10]
          first | done | (refine congrArg Value.bool ?_; simp_all [mayB]; done) | (refine congrArg Value.bool ?_; simp_all [mayB]; omega)
        · simp (maxSteps:=1000000)(dsimp:=false)(disch:=omega) only [go_sem, Φa, hP, h3_1, h3_10]
        · rfl
        · trivial
    · intro ss T4 L4 hI
      simp only [h3_1] at hI 
      obtain ⟨h4_15, h4_1, hL4, hinv⟩ := hI
      replace hL4 := hL4.symm
      subst hL4
      clear h3_1 h3_10 T3
      refine RX.live [1, 15] (fun T5 hT5 => ?_)
      simp only [forall_mem_cons', forall_mem_nil', go_sem, Φa, hP, h4_15, h4_1] at hT5
      obtain ⟨h5_1, h5_15⟩ := hT5
      clear h4_15 h4_1 T4
      refine RX.join 9 (fun (ss : Unit) T L' => T 24 = .bool (mayB x) ∧ L' = some (b0, .cells x.cells.toArray 29 (0, 0)) :: L ∧ (True)) (fun K5 hK5 => ?_) ?_
      · simp (maxSteps:=1000000)(dsimp:=false)(disch:=omega) only [go_sem, Φa, hP, h5_1, h5_15, hops]
        repeat' (first | refine iteB (fun hg => ?_) (fun hg => ?_) | refine iteI (fun hg => ?_) (fun hg => ?_) | ((first | refine ⟨_, Cell.at 0 rfl (show (Rc.cells _)[0]? = _ from rfl), ?_⟩ | refine ⟨_, Cell.at 0 rfl (show (Rc.cells _)[5]? = _ from rfl), ?_⟩ | refine ⟨_, Cell.at 0 rfl (show (Rc.cells _)[7]? = _ from rfl), ?_⟩ | refine ⟨_, Cell.at 0 rfl (show (Rc.cells _)[3]? = _ from rfl), ?_⟩ | refine ⟨_, Cell.at 0 rfl (show (Rc.cells _)[4]? = _ from rfl), ?_⟩ | refine And.intro (by omega) ?_ | refine ⟨_, Cell.at 0 rfl rfl, ?_⟩ | fail); try (with_reducible refine stI ?_); try simp (maxSteps:=1000000)(dsimp:=false)(disch:=omega) only [go_sem, Φa, hP, h5_1, h5_15, hops]) | fail)
        all_goals
          refine hK5 () _ (some (b0, .cells x.cells.toArray 29 (0, 0)) :: L) _ (by first | exact Less.refl _ | exact Less.drop _ _ | exact Less.drops (Less.drop _ _) | exact Less.drops (Less.drops (Less.drop _ _)) | exact Less.drops (Less.drops (Less.drops (Less.drop _ _))) | exact Less.drops (Less.drops (Less.drops (Less.drops (Less.drop _ _))))) ?_
          try dsimp only
          refine ⟨?_, ?_, ?_⟩
          · simp (maxSteps:=1000000)(dsimp:=false)(disch:=omega) only [go_sem, Φa, hP, h5_1, h5_15]
            first | done | (refine congrArg Value.bool ?_; simp_all [mayB]; done) | (refine congrArg Value.bool ?_; simp_all [mayB]; omega)
          · rfl
          · trivial
      · intro ss T6 L6 hI
        obtain ⟨h6_24, hL6, hinv⟩ := hI
        replace hL6 := hL6.symm
        subst hL6
        clear h5_1 h5_15 T5
        refine RX.done ?_
        simp (maxSteps:=1000000)(dsimp:=false)(disch:=omega) only [go_sem, Φa, hP, h6_24, hops]
        refine hK2 _ _ ?_
        try clear hK2 K2
        refine SX.ret ?_
        simp only [andThen_normal, andThen_ret, andThen_exit, inBlk_normal, inBlk_ret, inBlk_exit, Nat.reduceEqDiff, if_true, if_false, ↓reduceIte, retQ_ret]
        try simp only [res0, res1, res2, res3, stK_e, go_sem, Φa, hP, h6_24]
        exact ⟨_, _, Less.drop _ _, rfl, rfl, rfl⟩
set_option maxHeartbeats 1000000 in
set_option maxRecDepth 100000 in
theorem count_spec {Γ : Ctx} (hP : Γ.P = Tryd.prog) {L : Hp} {at_ : Int} {sh : Bool} {v : Value} {rows : List (List Int)} (hr : SlR (Cell Γ L) v rows) (hm : cnt rows ≤ 9000000000000000000) (hrl : rows.length ≤ 9000000000000000000) :
    SCall Γ 32 #[(.agg #[.int .i64 at_, v, .bool sh])] L (fun v L' => v = .int .i64 (cnt rows : Int) ∧ L' = L) := by
  obtain ⟨A, c, rfl, hc⟩ := Sl.shape hr
  obtain ⟨a1, e1, _, hat⟩ := Sl.at1 hr
  refine SCall.enter (n := 19) (res1 2) (hP ▸ Tryd.func32) rfl rfl (by simp) (res1_ok rfl) ?_
  refine SX.seq_k fun K1 hK1 => ?_
  refine SX.region_d [some 1, some 2] rfl (fun ops hops => ?_)
  unfold Dsts at hops
  simp (maxSteps:=1000000)(dsimp:=false)(disch:=omega) only [go_sem, Φa, hP, hops]
  intro b0
  try with_reducible refine stI ?_
  try simp (maxSteps:=1000000)(dsimp:=false)(disch:=omega) only [go_sem, Φa, hP, hops]
  refine hK1 _ _ ?_
  try clear hK1 K1
  refine SX.seq_k fun K2 hK2 => ?_
  refine SX.region_d [some 3] rfl (fun ops hops => ?_)
  unfold Dsts at hops
  simp (maxSteps:=1000000)(dsimp:=false)(disch:=omega) only [go_sem, Φa, hP, hops]
  refine hK2 _ _ ?_
  try clear hK2 K2
  refine SX.seq_k fun K3 hK3 => ?_
  refine SX.seq_k fun K4 hK4 => ?_
  refine SX.region_d [some 6, some 7, some 8, some 9] rfl (fun ops hops => ?_)
  unfold Dsts at hops
  simp (maxSteps:=1000000)(dsimp:=false)(disch:=omega) only [go_sem, Φa, hP, hops]
  refine ⟨_, Cell.at 0 rfl rfl, ?_⟩
  try with_reducible refine stI ?_
  try simp (maxSteps:=1000000)(dsimp:=false)(disch:=omega) only [go_sem, Φa, hP, hops]
  refine hK4 _ _ ?_
  try clear hK4 K4
  refine SX.block ?_
  refine SX.live [3, 7, 8, 9] (fun T1 hT1 => ?_)
  simp only [forall_mem_cons', forall_mem_nil', go_sem, Φa, hP] at hT1
  obtain ⟨h1_3, h1_7, h1_8, h1_9⟩ := hT1
  refine SX.loop_k (fun (ss : (Nat)) T L' => (fun (k : Nat) => T 3 = .int .i64 (cnt (rows.take k) : Int) ∧ T 9 = .int .i64 (k : Int) ∧ T 7 = T1 7 ∧ T 8 = T1 8 ∧ L' = some (b0, .cells #[.int .i64 at_, .slice A rows.length c, .bool sh] 41 (0, 0)) :: L ∧ (k ≤ rows.length)) (ss)) (fun (ss : (Nat)) => (fun (k : Nat) => rows.length - k) (ss)) 0 ?_ ?_
  · try dsimp only
    refine ⟨?_, ?_, ?_, ?_, ?_, ?_⟩
    · first | exact h1_3 | (rw [h1_3]; rfl) | (rw [h1_3]; simp; done)
    · first | exact h1_9 | (rw [h1_9]; rfl) | (rw [h1_9]; simp; done)
    · rfl
    · rfl
    · rfl
    · exact Nat.zero_le _
  · intro k T2 L2 hI K5 hK5
    try dsimp only at hI hK5
    simp only [h1_7, h1_8] at hI hK5
    obtain ⟨h2_3, h2_9, h2_7, h2_8, hL2, hk⟩ := hI
    replace hL2 := hL2.symm
    subst hL2
    clear h1_3 h1_7 h1_8 h1_9 T1
    refine SX.seq_k fun K6 hK6 => ?_
    refine SX.region_d [some 10] rfl (fun ops hops => ?_)
    unfold Dsts at hops
    simp (maxSteps:=1000000)(dsimp:=false)(disch:=omega) only [go_sem, Φa, hP, h2_3, h2_9, h2_7, h2_8, hops]
    repeat' ((first | refine And.intro (by omega) ?_ | fail); try (with_reducible refine stI ?_); try simp (maxSteps:=1000000)(dsimp:=false)(disch:=omega) only [go_sem, Φa, hP, h2_3, h2_9, h2_7, h2_8, hops])
    refine hK6 _ _ ?_
    try clear hK6 K6
    refine SX.seq_k fun K7 hK7 => ?_
    refine SX.cond_k fun X8 Y8 hX8 hY8 => ?_
    simp (maxSteps:=1000000)(dsimp:=false)(disch:=omega) only [go_sem, Φa, hP, h2_3, h2_9, h2_7, h2_8, condVC]
    refine ⟨fun hc10 => hX8 ?_, fun hc10 => hY8 ?_⟩
    · clear hX8 hY8 X8 Y8
      refine SX.skip ?_
      try simp only [andThen_normal, andThen_ret, andThen_exit, inBlk_normal, inBlk_ret, inBlk_exit, Nat.reduceEqDiff, if_true, if_false, ↓reduceIte]
      refine hK7 _ _ ?_
      try clear hK7 K7
      refine SX.seq_k fun K9 hK9 => ?_
      refine SX.block ?_
      refine SX.seq_k fun K10 hK10 => ?_
      have hkl : k < rows.length := by omega
      obtain ⟨vk, hck, hsk⟩ := hat k _ (getD_get (d := []) hkl)
      obtain ⟨Ak, ck, rfl, hkc⟩ := Sl.shape hsk
      rw [Nat.mul_one] at hck
      have hcs : ((cnt (rows.take (k + 1)) : Nat) : Int) = cnt (rows.take k) + (rows.getD k []).length := by rw [cnt_take hkl]; omega
      have hcl := cnt_take_le rows k
      have hcl2 := cnt_take_le rows (k + 1)
      refine SX.region_d [some 11, some 12, some 5] rfl (fun ops hops => ?_)
      unfold Dsts at hops
      simp (maxSteps:=1000000)(dsimp:=false)(disch:=omega) only [go_sem, Φa, hP, h2_3, h2_9, h2_7, h2_8, hops, ia_at e1]
      refine ⟨_, Cell.cons _ hck, ?_⟩
      try with_reducible refine stI ?_
      try simp (maxSteps:=1000000)(dsimp:=false)(disch:=omega) only [go_sem, Φa, hP, h2_3, h2_9, h2_7, h2_8, hops, ia_at e1]
      refine hK10 _ _ ?_
      try clear hK10 K10
      refine SX.region_d [some 13, some 14, some 15, some 16, some 3] rfl (fun ops hops => ?_)
      unfold Dsts at hops
      simp (maxSteps:=1000000)(dsimp:=false)(disch:=omega) only [go_sem, Φa, hP, h2_3, h2_9, h2_7, h2_8, hops]
      repeat' ((first | refine And.intro (by omega) ?_ | fail); try (with_reducible refine stI ?_); try simp (maxSteps:=1000000)(dsimp:=false)(disch:=omega) only [go_sem, Φa, hP, h2_3, h2_9, h2_7, h2_8, hops])
      refine hK9 _ _ ?_
      try clear hK9 K9
      refine SX.live [3, 7, 8, 9] (fun T3 hT3 => ?_)
      simp only [forall_mem_cons', forall_mem_nil', go_sem, Φa, hP, h2_3, h2_9, h2_7, h2_8] at hT3
      obtain ⟨h3_3, h3_7, h3_8, h3_9⟩ := hT3
      clear h2_3 h2_9 h2_7 h2_8 T2
      refine SX.region_d [some 17, some 9] rfl (fun ops hops => ?_)
      unfold Dsts at hops
      simp (maxSteps:=1000000)(dsimp:=false)(disch:=omega) only [go_sem, Φa, hP, h3_3, h3_7, h3_8, h3_9, hops]
      repeat' ((first | refine And.intro (by omega) ?_ | fail); try (with_reducible refine stI ?_); try simp (maxSteps:=1000000)(dsimp:=false)(disch:=omega) only [go_sem, Φa, hP, h3_3, h3_7, h3_8, h3_9, hops])
      refine hK5 (k + 1) _ (some (b0, .cells #[.int .i64 at_, .slice A rows.length c, .bool sh] 41 (0, 0)) :: L) _ (by (try simp (disch := omega) only [e1]); exact Less.refl _) ?_ ?_
      · try dsimp only
        refine ⟨?_, ?_, ?_, ?_, ?_, ?_⟩
        · simp (maxSteps:=1000000)(dsimp:=false)(disch:=omega) only [go_sem, Φa, hP, h3_3, h3_7, h3_8, h3_9]
          rw [hcs]
        · simp (maxSteps:=1000000)(dsimp:=false)(disch:=omega) only [go_sem, Φa, hP, h3_3, h3_7, h3_8, h3_9]
          first | done | rfl | skip
        · simp (maxSteps:=1000000)(dsimp:=false)(disch:=omega) only [go_sem, Φa, hP, h3_3, h3_7, h3_8, h3_9]
        · simp (maxSteps:=1000000)(dsimp:=false)(disch:=omega) only [go_sem, Φa, hP, h3_3, h3_7, h3_8, h3_9]
        · rfl
        · omega
      · (try dsimp only); omega
    · clear hX8 hY8 X8 Y8
      refine SX.exit ?_
      try simp only [andThen_normal, andThen_ret, andThen_exit, inBlk_normal, inBlk_ret, inBlk_exit, Nat.reduceEqDiff, if_true, if_false, ↓reduceIte]
      refine hK3 _ _ ?_
      try clear hK3 K3
      refine SX.seq_k fun K11 hK11 => ?_
      refine SX.region_d [some 18, some 2] rfl (fun ops hops => ?_)
      unfold Dsts at hops
      simp (maxSteps:=1000000)(dsimp:=false)(disch:=omega) only [go_sem, Φa, hP, h2_3, h2_9, h2_7, h2_8, hops]
      refine hK11 _ _ ?_
      try clear hK11 K11
      refine SX.ret ?_
      simp only [andThen_normal, andThen_ret, andThen_exit, inBlk_normal, inBlk_ret, inBlk_exit, Nat.reduceEqDiff, if_true, if_false, ↓reduceIte, retQ_ret]
      try simp only [res0, res1, res2, res3, stK_e, go_sem, Φa, hP, h2_3, h2_9, h2_7, h2_8]
      exact ⟨_, _, Less.drop _ _, rfl, by rw [List.take_of_length_le (by omega)], rfl⟩
set_option maxHeartbeats 1000000 in
set_option maxRecDepth 100000 in
theorem refCount_spec {Γ : Ctx} (hP : Γ.P = Tryd.prog) {L : Hp} {v : Value} {rows : List (List Int)} (hr : SlR (Cell Γ L) v rows) (hm : cnt rows ≤ 9000000000000000000) (hrl : rows.length ≤ 9000000000000000000) :
    SCall Γ 36 #[v] L (fun v L' => v = .int .i64 (cnt rows : Int) ∧ L' = L) := by
  obtain ⟨A, c, rfl, hc⟩ := Sl.shape hr
  obtain ⟨a1, e1, _, hat⟩ := Sl.at1 hr
  refine SCall.enter (n := 19) (res1 2) (hP ▸ Tryd.func36) rfl rfl (by simp) (res1_ok rfl) ?_
  refine SX.seq_k fun K1 hK1 => ?_
  refine SX.region_d [some 2] rfl (fun ops hops => ?_)
  unfold Dsts at hops
  simp (maxSteps:=1000000)(dsimp:=false)(disch:=omega) only [go_sem, Φa, hP, hops]
  refine hK1 _ _ ?_
  try clear hK1 K1
  refine SX.seq_k fun K2 hK2 => ?_
  refine SX.region_d [some 3] rfl (fun ops hops => ?_)
  unfold Dsts at hops
  simp (maxSteps:=1000000)(dsimp:=false)(disch:=omega) only [go_sem, Φa, hP, hops]
  refine hK2 _ _ ?_
  try clear hK2 K2
  refine SX.seq_k fun K3 hK3 => ?_
  refine SX.seq_k fun K4 hK4 => ?_
  refine SX.region_d [some 4] rfl (fun ops hops => ?_)
  unfold Dsts at hops
  simp (maxSteps:=1000000)(dsimp:=false)(disch:=omega) only [go_sem, Φa, hP, hops]
  refine hK4 _ _ ?_
  try clear hK4 K4
  refine SX.block ?_
  refine SX.live [0, 3, 4] (fun T1 hT1 => ?_)
  simp only [forall_mem_cons', forall_mem_nil', go_sem, Φa, hP] at hT1
  obtain ⟨h1_0, h1_3, h1_4⟩ := hT1
  refine SX.loop_k (fun (ss : (Nat)) T L' => (fun (k : Nat) => T 3 = .int .i64 (cnt (rows.take k) : Int) ∧ T 4 = .int .i64 (k : Int) ∧ T 0 = T1 0 ∧ L' = L ∧ (k ≤ rows.length)) (ss)) (fun (ss : (Nat)) => (fun (k : Nat) => rows.length - k) (ss)) 0 ?_ ?_
  · try dsimp only
    refine ⟨?_, ?_, ?_, ?_, ?_⟩
    · first | exact h1_3 | (rw [h1_3]; rfl) | (rw [h1_3]; simp; done)
    · first | exact h1_4 | (rw [h1_4]; rfl) | (rw [h1_4]; simp; done)
    · rfl
    · rfl
    · exact Nat.zero_le _
  · intro k T2 L2 hI K5 hK5
    try dsimp only at hI hK5
    simp only [h1_0] at hI hK5
    obtain ⟨h2_3, h2_4, h2_0, hL2, hk⟩ := hI
    replace hL2 := hL2.symm
    subst hL2
    clear h1_0 h1_3 h1_4 T1
    refine SX.seq_k fun K6 hK6 => ?_
    refine SX.seq_k fun K7 hK7 => ?_
    refine SX.region_d [some 5, some 6, some 7, some 8] rfl (fun ops hops => ?_)
    unfold Dsts at hops
    simp (maxSteps:=1000000)(dsimp:=false)(disch:=omega) only [go_sem, Φa, hP, h2_3, h2_4, h2_0, hops]
    repeat' ((first | refine And.intro (by omega) ?_ | fail); try (with_reducible refine stI ?_); try simp (maxSteps:=1000000)(dsimp:=false)(disch:=omega) only [go_sem, Φa, hP, h2_3, h2_4, h2_0, hops])
    refine hK7 _ _ ?_
    try clear hK7 K7
    refine SX.cond_k fun X8 Y8 hX8 hY8 => ?_
    simp (maxSteps:=1000000)(dsimp:=false)(disch:=omega) only [go_sem, Φa, hP, h2_3, h2_4, h2_0, condVC]
    refine ⟨fun hc8 => hX8 ?_, fun hc8 => hY8 ?_⟩
    · clear hX8 hY8 X8 Y8
      refine SX.skip ?_
      try simp only [andThen_normal, andThen_ret, andThen_exit, inBlk_normal, inBlk_ret, inBlk_exit, Nat.reduceEqDiff, if_true, if_false, ↓reduceIte]
      refine hK6 _ _ ?_
      try clear hK6 K6
      refine SX.seq_k fun K9 hK9 => ?_
      refine SX.block ?_
      have hkl : k < rows.length := by omega
      obtain ⟨vk, hck, hsk⟩ := hat k _ (getD_get (d := []) hkl)
      obtain ⟨Ak, ck, rfl, hkc⟩ := Sl.shape hsk
      rw [Nat.mul_one] at hck
      have hcs : ((cnt (rows.take (k + 1)) : Nat) : Int) = cnt (rows.take k) + (rows.getD k []).length := by rw [cnt_take hkl]; omega
      have hcl := cnt_take_le rows k
      have hcl2 := cnt_take_le rows (k + 1)
      refine SX.region_d [some 11, some 12, some 13, some 14, some 15, some 16, some 17, some 3] rfl (fun ops hops => ?_)
      unfold Dsts at hops
      simp (maxSteps:=1000000)(dsimp:=false)(disch:=omega) only [go_sem, Φa, hP, h2_3, h2_4, h2_0, hops, ia_at e1]
      refine ⟨_, hck, ?_⟩
      try with_reducible refine stI ?_
      try simp (maxSteps:=1000000)(dsimp:=false)(disch:=omega) only [go_sem, Φa, hP, h2_3, h2_4, h2_0, hops, ia_at e1]
      refine hK9 _ _ ?_
      try clear hK9 K9
      refine SX.live [0, 3, 4] (fun T3 hT3 => ?_)
      simp only [forall_mem_cons', forall_mem_nil', go_sem, Φa, hP, h2_3, h2_4, h2_0] at hT3
      obtain ⟨h3_0, h3_3, h3_4⟩ := hT3
      clear h2_3 h2_4 h2_0 T2
      refine SX.region_d [some 9, some 10, some 4] rfl (fun ops hops => ?_)
      unfold Dsts at hops
      simp (maxSteps:=1000000)(dsimp:=false)(disch:=omega) only [go_sem, Φa, hP, h3_0, h3_3, h3_4, hops]
      repeat' ((first | refine And.intro (by omega) ?_ | fail); try (with_reducible refine stI ?_); try simp (maxSteps:=1000000)(dsimp:=false)(disch:=omega) only [go_sem, Φa, hP, h3_0, h3_3, h3_4, hops])
      refine hK5 (k + 1) _ (L) _ (by (try simp (disch := omega) only [e1]); exact Less.refl _) ?_ ?_
      · try dsimp only
        refine ⟨?_, ?_, ?_, ?_, ?_⟩
        · simp (maxSteps:=1000000)(dsimp:=false)(disch:=omega) only [go_sem, Φa, hP, h3_0, h3_3, h3_4]
          rw [hcs]
        · simp (maxSteps:=1000000)(dsimp:=false)(disch:=omega) only [go_sem, Φa, hP, h3_0, h3_3, h3_4]
          first | done | rfl | skip
        · simp (maxSteps:=1000000)(dsimp:=false)(disch:=omega) only [go_sem, Φa, hP, h3_0, h3_3, h3_4]
        · rfl
        · omega
      · (try dsimp only); omega
    · clear hX8 hY8 X8 Y8
      refine SX.exit ?_
      try simp only [andThen_normal, andThen_ret, andThen_exit, inBlk_normal, inBlk_ret, inBlk_exit, Nat.reduceEqDiff, if_true, if_false, ↓reduceIte]
      refine hK3 _ _ ?_
      try clear hK3 K3
      refine SX.seq_k fun K10 hK10 => ?_
      refine SX.region_d [some 18, some 2] rfl (fun ops hops => ?_)
      unfold Dsts at hops
      simp (maxSteps:=1000000)(dsimp:=false)(disch:=omega) only [go_sem, Φa, hP, h2_3, h2_4, h2_0, hops]
      refine hK10 _ _ ?_
      try clear hK10 K10
      refine SX.ret ?_
      simp only [andThen_normal, andThen_ret, andThen_exit, inBlk_normal, inBlk_ret, inBlk_exit, Nat.reduceEqDiff, if_true, if_false, ↓reduceIte, retQ_ret]
      try simp only [res0, res1, res2, res3, stK_e, go_sem, Φa, hP, h2_3, h2_4, h2_0]
      exact ⟨_, _, Less.refl _, rfl, by rw [List.take_of_length_le (by omega)], rfl⟩

end Go.Proofs.YtpakphgeichopaaDoor
set_option linter.unusedVariables false
set_option linter.unusedSimpArgs false
namespace Go.Proofs.YtpakphgeichopaaDoor
open Go.RowKit Go.SX
open Go.SX renaming ia_someH → Φa

theorem list_eq_getD {l m : List Int} (h : l.length = m.length) (he : ∀ j, j < l.length → l.getD j 0 = m.getD j 0) : l = m := list_eq_of h fun j hj => by
  rw [getD_get (d := 0) hj, getD_get (d := 0) (by omega : j < m.length), he j hj]
theorem sl_at {k : IntKind} {C : Addr → Value → Prop} {A : Option Addr} {n c : Nat} {l : List Int} (h : SlI k C (.slice A n c) l) : ∃ a1 : Addr, (0 < n → A = some a1) ∧ n = l.length ∧ ∀ j, j < l.length → C (a1.add j) (.int k (l.getD j 0)) := by
  obtain ⟨a1, e1, hn, h⟩ := Sl.at1 h
  refine ⟨a1, e1, hn, fun j hj => ?_⟩
  have := h j _ (getD_get (d := 0) hj)
  rw [Nat.mul_one] at this
  exact this
theorem slR_at {C : Addr → Value → Prop} {A : Option Addr} {n c : Nat} {l : List (List Int)} (h : SlR C (.slice A n c) l) : ∃ a1 : Addr, (0 < n → A = some a1) ∧ n = l.length ∧ ∀ j, j < l.length → ∃ B d, C (a1.add j) (.slice B (l.getD j []).length d) ∧ (l.getD j []).length ≤ d ∧ SlI .u8 C (.slice B (l.getD j []).length d) (l.getD j []) := by
  obtain ⟨a1, e1, hn, h⟩ := Sl.at1 h
  refine ⟨a1, e1, hn, fun j hj => ?_⟩
  obtain ⟨v, h1, h2⟩ := h j _ (getD_get (d := []) hj)
  obtain ⟨B, d, rfl, hd⟩ := Sl.shape h2
  rw [Nat.mul_one] at h1
  exact ⟨B, d, h1, hd, h2⟩
def mayF (f : Fm) : Bool := decide (0 ≤ f.at_) && decide (f.rows.length = 128) && (f.sh == decide (cnt f.rows < 1024)) && decide (∀ j, j < f.rows.length → (f.rows.getD j []).length ≤ 8)
theorem cnt_at {l : List (List Int)} {k : Nat} (h : k < l.length) : (l.getD k []).length ≤ cnt l := by
  have := cnt_take h
  have := cnt_take_le l (k + 1)
  omega
set_option maxHeartbeats 1000000 in
set_option maxRecDepth 100000 in
theorem SameBytes_spec {Γ : Ctx} (hP : Γ.P = Tryd.prog) {L : Hp} {va vb : Value} {l m : List Int} (ha : SlI .u8 (Cell Γ L) va l) (hb : SlI .u8 (Cell Γ L) vb m) (hl : l.length ≤ 9000000000000000000) :
    SCall Γ 42 #[va, vb] L (fun v L' => v = .bool (decide (l = m)) ∧ L' = L) := by
  obtain ⟨A, c, rfl, hc⟩ := Sl.shape ha
  obtain ⟨B, d, rfl, hd⟩ := Sl.shape hb
  obtain ⟨a1, e1, _, hA1⟩ := sl_at ha
  obtain ⟨a2, e2, _, hA2⟩ := sl_at hb
  refine SCall.enter (n := 26) (res1 4) (hP ▸ Tryd.func42) rfl rfl (by simp) (res1_ok rfl) ?_
  refine SX.seq_k fun K1 hK1 => ?_
  refine SX.region_d [some 4] rfl (fun ops hops => ?_)
  unfold Dsts at hops
  simp (maxSteps:=1000000)(dsimp:=false)(disch:=omega) only [go_sem, Φa, hP, hops]
  refine hK1 _ _ ?_
  try clear hK1 K1
  refine SX.seq_k fun K2 hK2 => ?_
  refine SX.seq_k fun K3 hK3 => ?_
  refine SX.region_d [some 6, some 7, some 8, some 9, some 10] rfl (fun ops hops => ?_)
  unfold Dsts at hops
  simp (maxSteps:=1000000)(dsimp:=false)(disch:=omega) only [go_sem, Φa, hP, hops]
  repeat' ((first | refine And.intro (by omega) ?_ | fail); try (with_reducible refine stI ?_); try simp (maxSteps:=1000000)(dsimp:=false)(disch:=omega) only [go_sem, Φa, hP, hops])
  refine hK3 _ _ ?_
  try clear hK3 K3
  refine SX.cond_k fun X4 Y4 hX4 hY4 => ?_
  simp (maxSteps:=1000000)(dsimp:=false)(disch:=omega) only [go_sem, Φa, hP, condVC]
  refine ⟨fun hc10 => hX4 ?_, fun hc10 => hY4 ?_⟩
  · clear hX4 hY4 X4 Y4
    refine SX.seq_k fun K5 hK5 => ?_
    refine SX.region_d [some 4] rfl (fun ops hops => ?_)
    unfold Dsts at hops
    simp (maxSteps:=1000000)(dsimp:=false)(disch:=omega) only [go_sem, Φa, hP, hops]
    refine hK5 _ _ ?_
    try clear hK5 K5
    refine SX.ret ?_
    simp only [andThen_normal, andThen_ret, andThen_exit, inBlk_normal, inBlk_ret, inBlk_exit, Nat.reduceEqDiff, if_true, if_false, ↓reduceIte, retQ_ret]
    try simp only [res0, res1, res2, res3, stK_e, go_sem, Φa, hP]
    refine ⟨_, L, Less.refl _, rfl, ?_, rfl⟩
    rw [decide_eq_false (fun h => hc10 (by rw [h]))]
  · clear hX4 hY4 X4 Y4
    refine SX.skip ?_
    try simp only [andThen_normal, andThen_ret, andThen_exit, inBlk_normal, inBlk_ret, inBlk_exit, Nat.reduceEqDiff, if_true, if_false, ↓reduceIte]
    refine hK2 _ _ ?_
    try clear hK2 K2
    refine SX.seq_k fun K6 hK6 => ?_
    refine SX.seq_k fun K7 hK7 => ?_
    refine SX.region_d [some 5] rfl (fun ops hops => ?_)
    unfold Dsts at hops
    simp (maxSteps:=1000000)(dsimp:=false)(disch:=omega) only [go_sem, Φa, hP, hops]
    refine hK7 _ _ ?_
    try clear hK7 K7
    refine SX.block ?_
    refine SX.live [0, 1, 5] (fun T1 hT1 => ?_)
    simp only [forall_mem_cons', forall_mem_nil', go_sem, Φa, hP] at hT1
    obtain ⟨h1_0, h1_1, h1_5⟩ := hT1
    refine SX.loop_k (fun (ss : (Nat)) T L' => (fun (k : Nat) => T 5 = .int .i64 (k : Int) ∧ T 0 = T1 0 ∧ T 1 = T1 1 ∧ L' = L ∧ (k ≤ l.length ∧ ∀ j, j < k → l.getD j 0 = m.getD j 0)) (ss)) (fun (ss : (Nat)) => (fun (k : Nat) => l.length - k) (ss)) 0 ?_ ?_
    · try dsimp only
      refine ⟨?_, ?_, ?_, ?_, ?_⟩
      · first | exact h1_5 | (rw [h1_5]; rfl) | (rw [h1_5]; simp; done)
      · rfl
      · rfl
      · rfl
      · exact ⟨Nat.zero_le _, fun j hj => absurd hj (Nat.not_lt_zero _)⟩
    · intro k T2 L2 hI K8 hK8
      try dsimp only at hI hK8
      simp only [h1_0, h1_1] at hI hK8
      obtain ⟨h2_5, h2_0, h2_1, hL2, ⟨hk, hin⟩⟩ := hI
      replace hL2 := hL2.symm
      subst hL2
      clear h1_0 h1_1 h1_5 T1
      refine SX.seq_k fun K9 hK9 => ?_
      refine SX.seq_k fun K10 hK10 => ?_
      refine SX.region_d [some 11, some 12, some 13, some 14] rfl (fun ops hops => ?_)
      unfold Dsts at hops
      simp (maxSteps:=1000000)(dsimp:=false)(disch:=omega) only [go_sem, Φa, hP, h2_5, h2_0, h2_1, hops]
      repeat' ((first | refine And.intro (by omega) ?_ | fail); try (with_reducible refine stI ?_); try simp (maxSteps:=1000000)(dsimp:=false)(disch:=omega) only [go_sem, Φa, hP, h2_5, h2_0, h2_1, hops])
      refine hK10 _ _ ?_
      try clear hK10 K10
      refine SX.cond_k fun X11 Y11 hX11 hY11 => ?_
      simp (maxSteps:=1000000)(dsimp:=false)(disch:=omega) only [go_sem, Φa, hP, h2_5, h2_0, h2_1, condVC]
      refine ⟨fun hc14 => hX11 ?_, fun hc14 => hY11 ?_⟩
      · clear hX11 hY11 X11 Y11
        refine SX.skip ?_
        try simp only [andThen_normal, andThen_ret, andThen_exit, inBlk_normal, inBlk_ret, inBlk_exit, Nat.reduceEqDiff, if_true, if_false, ↓reduceIte]
        refine hK9 _ _ ?_
        try clear hK9 K9
        refine SX.seq_k fun K12 hK12 => ?_
        refine SX.block ?_
        refine SX.seq_k fun K13 hK13 => ?_
        have hkl : k < l.length := by omega
        have hkm : k < m.length := by omega
        have hm1 := hA1 k hkl
        have hm2 := hA2 k hkm
        refine SX.quiet_d (hP ▸ T.mixed) (by kernel_rfl) [some 17, some 18, some 19, some 20, some 21, some 22, some 23, some 24, some 25] rfl (fun ops hops => ?_)
        unfold Dsts at hops
        simp (maxSteps:=1000000)(dsimp:=false)(disch:=omega) only [go_sem, Φa, hP, h2_5, h2_0, h2_1, hops, ia_at e1, ia_at e2]
        repeat' ((first | refine ⟨_, hm1, ?_⟩ | refine ⟨_, hm2, ?_⟩ | refine ⟨_, Cell.at 0 rfl rfl, ?_⟩ | refine ⟨_, Cell.at 1 rfl rfl, ?_⟩ | refine ⟨_, Cell.at 2 rfl rfl, ?_⟩ | refine ⟨_, Cell.at 3 rfl rfl, ?_⟩ | refine And.intro (by omega) ?_ | fail); try (with_reducible refine stI ?_); try simp (maxSteps:=1000000)(dsimp:=false)(disch:=omega) only [go_sem, Φa, hP, h2_5, h2_0, h2_1, hops, ia_at e1, ia_at e2])
        refine hK13 _ _ ?_
        try clear hK13 K13
        refine SX.live [0, 1, 5, 25] (fun T3 hT3 => ?_)
        simp only [forall_mem_cons', forall_mem_nil', go_sem, Φa, hP, h2_5, h2_0, h2_1] at hT3
        obtain ⟨h3_0, h3_1, h3_5, h3_25⟩ := hT3
        clear h2_5 h2_0 h2_1 T2
        refine SX.cond_k fun X14 Y14 hX14 hY14 => ?_
        simp (maxSteps:=1000000)(dsimp:=false)(disch:=omega) only [go_sem, Φa, hP, h3_0, h3_1, h3_5, h3_25, condVC]
        refine ⟨fun hc25 => hX14 ?_, fun hc25 => hY14 ?_⟩
        · clear hX14 hY14 X14 Y14
          refine SX.seq_k fun K15 hK15 => ?_
          refine SX.region_d [some 4] rfl (fun ops hops => ?_)
          unfold Dsts at hops
          simp (maxSteps:=1000000)(dsimp:=false)(disch:=omega) only [go_sem, Φa, hP, h3_0, h3_1, h3_5, h3_25, hops]
          refine hK15 _ _ ?_
          try clear hK15 K15
          refine SX.ret ?_
          simp only [andThen_normal, andThen_ret, andThen_exit, inBlk_normal, inBlk_ret, inBlk_exit, Nat.reduceEqDiff, if_true, if_false, ↓reduceIte, retQ_ret]
          try simp only [res0, res1, res2, res3, stK_e, go_sem, Φa, hP, h3_0, h3_1, h3_5, h3_25]
          refine ⟨_, L, Less.refl _, rfl, ?_, rfl⟩
          rw [decide_eq_false (fun h => hc25 (by rw [h]))]
        · clear hX14 hY14 X14 Y14
          refine SX.skip ?_
          try simp only [andThen_normal, andThen_ret, andThen_exit, inBlk_normal, inBlk_ret, inBlk_exit, Nat.reduceEqDiff, if_true, if_false, ↓reduceIte]
          refine hK12 _ _ ?_
          try clear hK12 K12
          refine SX.region_d [some 15, some 16, some 5] rfl (fun ops hops => ?_)
          unfold Dsts at hops
          simp (maxSteps:=1000000)(dsimp:=false)(disch:=omega) only [go_sem, Φa, hP, h3_0, h3_1, h3_5, h3_25, hops]
          repeat' ((first | refine And.intro (by omega) ?_ | fail); try (with_reducible refine stI ?_); try simp (maxSteps:=1000000)(dsimp:=false)(disch:=omega) only [go_sem, Φa, hP, h3_0, h3_1, h3_5, h3_25, hops])
          refine hK8 (k + 1) _ (L) _ (by (try simp (disch := omega) only [e1, e2]); exact Less.refl _) ?_ ?_
          · try dsimp only
            refine ⟨?_, ?_, ?_, ?_, ?_⟩
            · simp (maxSteps:=1000000)(dsimp:=false)(disch:=omega) only [go_sem, Φa, hP, h3_0, h3_1, h3_5, h3_25]
              first | done | rfl | skip
            · simp (maxSteps:=1000000)(dsimp:=false)(disch:=omega) only [go_sem, Φa, hP, h3_0, h3_1, h3_5, h3_25]
            · simp (maxSteps:=1000000)(dsimp:=false)(disch:=omega) only [go_sem, Φa, hP, h3_0, h3_1, h3_5, h3_25]
            · rfl
            · refine ⟨by omega, fun j hj => ?_⟩
              rcases Nat.lt_succ_iff_lt_or_eq.1 hj with h | rfl
              · exact hin j h
              · first | exact hc25 | exact Decidable.not_not.1 hc25 | omega
          · (try dsimp only); omega
      · clear hX11 hY11 X11 Y11
        refine SX.exit ?_
        try simp only [andThen_normal, andThen_ret, andThen_exit, inBlk_normal, inBlk_ret, inBlk_exit, Nat.reduceEqDiff, if_true, if_false, ↓reduceIte]
        refine hK6 _ _ ?_
        try clear hK6 K6
        refine SX.seq_k fun K16 hK16 => ?_
        refine SX.region_d [some 4] rfl (fun ops hops => ?_)
        unfold Dsts at hops
        simp (maxSteps:=1000000)(dsimp:=false)(disch:=omega) only [go_sem, Φa, hP, h2_5, h2_0, h2_1, hops]
        refine hK16 _ _ ?_
        try clear hK16 K16
        refine SX.ret ?_
        simp only [andThen_normal, andThen_ret, andThen_exit, inBlk_normal, inBlk_ret, inBlk_exit, Nat.reduceEqDiff, if_true, if_false, ↓reduceIte, retQ_ret]
        try simp only [res0, res1, res2, res3, stK_e, go_sem, Φa, hP, h2_5, h2_0, h2_1]
        refine ⟨_, L, Less.refl _, rfl, ?_, rfl⟩
        rw [decide_eq_true (list_eq_getD (by omega) (fun j hj => hin j (by omega)))]

theorem SameBytes_true {Γ : Ctx} (hP : Γ.P = Tryd.prog) {L : Hp} {va vb : Value} {l : List Int} (ha : SlI .u8 (Cell Γ L) va l) (hb : SlI .u8 (Cell Γ L) vb l) (hl : l.length ≤ 9000000000000000000) : SCall Γ 42 #[va, vb] L (fun v L' => v = .bool true ∧ L' = L) := by
  have := SameBytes_spec hP ha hb hl
  rwa [decide_eq_true rfl] at this
set_option maxHeartbeats 1000000 in
set_option maxRecDepth 100000 in
theorem Same_spec {Γ : Ctx} (hP : Γ.P = Tryd.prog) {L : Hp} {va vb : Value} {f : Fm} (ha : SlR (Cell Γ L) va f.rows) (hb : SlR (Cell Γ L) vb f.rows) (hm : cnt f.rows ≤ 9000000000000000000) (hrl : f.rows.length ≤ 9000000000000000000) :
    SCall Γ 21 #[(.agg (f.cells va).toArray), (.agg (f.cells vb).toArray)] L (fun v L' => v = .bool true ∧ L' = L) := by
  obtain ⟨A, c, rfl, hc⟩ := Sl.shape ha
  obtain ⟨B, d, rfl, hd⟩ := Sl.shape hb
  obtain ⟨a1, e1, _, hA1⟩ := slR_at ha
  obtain ⟨a2, e2, _, hA2⟩ := slR_at hb
  refine SCall.enter (n := 48) (res1 4) (hP ▸ Tryd.func21) rfl rfl (by simp) (res1_ok rfl) ?_
  refine SX.seq_k fun K1 hK1 => ?_
  refine SX.region_d [some 2, some 3, some 4] rfl (fun ops hops => ?_)
  unfold Dsts at hops
  simp (maxSteps:=1000000)(dsimp:=false)(disch:=omega) only [go_sem, Φa, hP, hops]
  intro b0
  try with_reducible refine stI ?_
  try simp (maxSteps:=1000000)(dsimp:=false)(disch:=omega) only [go_sem, Φa, hP, hops]
  intro b1
  try with_reducible refine stI ?_
  try simp (maxSteps:=1000000)(dsimp:=false)(disch:=omega) only [go_sem, Φa, hP, hops]
  refine hK1 _ _ ?_
  try clear hK1 K1
  refine SX.seq_k fun K2 hK2 => ?_
  refine SX.seq_k fun K3 hK3 => ?_
  refine SX.region_xd [some 7, some 8, some 9, some 10, some 11, some 12, some 13, some 14, some 15, some 16, some 17, some 18, some 19, some 20, some 21, some 22, some 23, some 24, some 25, some 26, some 27] rfl (fun ops hops => ?_)
  unfold Dsts at hops
  refine RX.live [2, 3] (fun T1 hT1 => ?_)
  simp only [forall_mem_cons', forall_mem_nil', go_sem, Φa, hP] at hT1
  obtain ⟨h1_2, h1_3⟩ := hT1
  refine RX.join 12 (fun (ss : Unit) T L' => T 18 = .bool (false) ∧ T 2 = T1 2 ∧ T 3 = T1 3 ∧ L' = some (b1, .cells (f.cells (.slice B f.rows.length d)).toArray 41 (0, 0)) :: some (b0, .cells (f.cells (.slice A f.rows.length c)).toArray 41 (0, 0)) :: L ∧ (True)) (fun K4 hK4 => ?_) ?_
  · simp only [h1_2, h1_3] at hK4
    simp (maxSteps:=1000000)(dsimp:=false)(disch:=omega) only [go_sem, Φa, hP, h1_2, h1_3, hops]
    repeat' (first | refine iteB (fun hg => ?_) (fun hg => ?_) | refine iteI (fun hg => ?_) (fun hg => ?_) | ((first | refine ⟨_, Cell.at 1 rfl (show (Fm.cells _ _)[0]? = _ from rfl), ?_⟩ | refine ⟨_, Cell.at 0 rfl (show (Fm.cells _ _)[0]? = _ from rfl), ?_⟩ | refine ⟨_, Cell.at 1 rfl (show (Fm.cells _ _)[2]? = _ from rfl), ?_⟩ | refine ⟨_, Cell.at 0 rfl (show (Fm.cells _ _)[2]? = _ from rfl), ?_⟩ | refine ⟨_, Cell.at 1 rfl (show (Fm.cells _ _)[1]? = _ from rfl), ?_⟩ | refine ⟨_, Cell.at 0 rfl (show (Fm.cells _ _)[1]? = _ from rfl), ?_⟩ | refine And.intro (by omega) ?_ | refine ⟨_, Cell.at 0 rfl rfl, ?_⟩ | refine ⟨_, Cell.at 1 rfl rfl, ?_⟩ | fail); try (with_reducible refine stI ?_); try simp (maxSteps:=1000000)(dsimp:=false)(disch:=omega) only [go_sem, Φa, hP, h1_2, h1_3, hops]) | fail)
    all_goals
      refine hK4 () _ (some (b1, .cells (f.cells (.slice B f.rows.length d)).toArray 41 (0, 0)) :: some (b0, .cells (f.cells (.slice A f.rows.length c)).toArray 41 (0, 0)) :: L) _ (by first | exact Less.refl _ | exact Less.drop _ _ | exact Less.drops (Less.drop _ _) | exact Less.drops (Less.drops (Less.drop _ _)) | exact Less.drops (Less.drops (Less.drops (Less.drop _ _))) | exact Less.drops (Less.drops (Less.drops (Less.drops (Less.drop _ _))))) ?_
      try dsimp only
      refine ⟨?_, ?_, ?_, ?_, ?_⟩
      · simp (maxSteps:=1000000)(dsimp:=false)(disch:=omega) only [go_sem, Φa, hP, h1_2, h1_3]
        first | done | (refine congrArg Value.bool ?_; simp_all; done)
      · simp (maxSteps:=1000000)(dsimp:=false)(disch:=omega) only [go_sem, Φa, hP, h1_2, h1_3]
      · simp (maxSteps:=1000000)(dsimp:=false)(disch:=omega) only [go_sem, Φa, hP, h1_2, h1_3]
      · rfl
      · trivial
  · intro ss T2 L2 hI
    simp only [h1_2, h1_3] at hI 
    obtain ⟨h2_18, h2_2, h2_3, hL2, hinv⟩ := hI
    replace hL2 := hL2.symm
    subst hL2
    clear h1_2 h1_3 T1
    refine RX.live [2, 3, 18] (fun T3 hT3 => ?_)
    simp only [forall_mem_cons', forall_mem_nil', go_sem, Φa, hP, h2_18, h2_2, h2_3] at hT3
    obtain ⟨h3_2, h3_3, h3_18⟩ := hT3
    clear h2_18 h2_2 h2_3 T2
    refine RX.join 9 (fun (ss : Unit) T L' => T 27 = .bool (false) ∧ T 2 = T3 2 ∧ T 3 = T3 3 ∧ L' = some (b1, .cells (f.cells (.slice B f.rows.length d)).toArray 41 (0, 0)) :: some (b0, .cells (f.cells (.slice A f.rows.length c)).toArray 41 (0, 0)) :: L ∧ (True)) (fun K5 hK5 => ?_) ?_
    · simp only [h3_2, h3_3] at hK5
      simp (maxSteps:=1000000)(dsimp:=false)(disch:=omega) only [go_sem, Φa, hP, h3_2, h3_3, h3_18, hops]
      repeat' (first | refine iteB (fun hg => ?_) (fun hg => ?_) | refine iteI (fun hg => ?_) (fun hg => ?_) | ((first | refine ⟨_, Cell.at 1 rfl (show (Fm.cells _ _)[0]? = _ from rfl), ?_⟩ | refine ⟨_, Cell.at 0 rfl (show (Fm.cells _ _)[0]? = _ from rfl), ?_⟩ | refine ⟨_, Cell.at 1 rfl (show (Fm.cells _ _)[2]? = _ from rfl), ?_⟩ | refine ⟨_, Cell.at 0 rfl (show (Fm.cells _ _)[2]? = _ from rfl), ?_⟩ | refine ⟨_, Cell.at 1 rfl (show (Fm.cells _ _)[1]? = _ from rfl), ?_⟩ | refine ⟨_, Cell.at 0 rfl (show (Fm.cells _ _)[1]? = _ from rfl), ?_⟩ | refine And.intro (by omega) ?_ | refine ⟨_, Cell.at 0 rfl rfl, ?_⟩ | refine ⟨_, Cell.at 1 rfl rfl, ?_⟩ | fail); try (with_reducible refine stI ?_); try simp (maxSteps:=1000000)(dsimp:=false)(disch:=omega) only [go_sem, Φa, hP, h3_2, h3_3, h3_18, hops]) | fail)
      all_goals
        refine hK5 () _ (some (b1, .cells (f.cells (.slice B f.rows.length d)).toArray 41 (0, 0)) :: some (b0, .cells (f.cells (.slice A f.rows.length c)).toArray 41 (0, 0)) :: L) _ (by first | exact Less.refl _ | exact Less.drop _ _ | exact Less.drops (Less.drop _ _) | exact Less.drops (Less.drops (Less.drop _ _)) | exact Less.drops (Less.drops (Less.drops (Less.drop _ _))) | exact Less.drops (Less.drops (Less.drops (Less.drops (Less.drop _ _))))) ?_
        try dsimp only
        refine ⟨?_, ?_, ?_, ?_, ?_⟩
        · simp (maxSteps:=1000000)(dsimp:=false)(disch:=omega) only [go_sem, Φa, hP, h3_2, h3_3, h3_18]
          first | done | (refine congrArg Value.bool ?_; simp_all; done)
        · simp (maxSteps:=1000000)(dsimp:=false)(disch:=omega) only [go_sem, Φa, hP, h3_2, h3_3, h3_18]
        · simp (maxSteps:=1000000)(dsimp:=false)(disch:=omega) only [go_sem, Φa, hP, h3_2, h3_3, h3_18]
        · rfl
        · trivial
    · intro ss T4 L4 hI
      simp only [h3_2, h3_3] at hI 
      obtain ⟨h4_27, h4_2, h4_3, hL4, hinv⟩ := hI
      replace hL4 := hL4.symm
      subst hL4
      clear h3_2 h3_3 h3_18 T3
      refine RX.done ?_
      simp (maxSteps:=1000000)(dsimp:=false)(disch:=omega) only [go_sem, Φa, hP, h4_27, h4_2, h4_3, hops]
      refine hK3 _ _ ?_
      try clear hK3 K3
      refine SX.cond_k fun X6 Y6 hX6 hY6 => ?_
      simp (maxSteps:=1000000)(dsimp:=false)(disch:=omega) only [go_sem, Φa, hP, h4_27, h4_2, h4_3, condVC]
      refine hY6 ?_
      clear hX6 hY6 X6 Y6
      refine SX.skip ?_
      try simp only [andThen_normal, andThen_ret, andThen_exit, inBlk_normal, inBlk_ret, inBlk_exit, Nat.reduceEqDiff, if_true, if_false, ↓reduceIte]
      refine hK2 _ _ ?_
      try clear hK2 K2
      refine SX.seq_k fun K7 hK7 => ?_
      refine SX.seq_k fun K8 hK8 => ?_
      refine SX.region_d [some 5] rfl (fun ops hops => ?_)
      unfold Dsts at hops
      simp (maxSteps:=1000000)(dsimp:=false)(disch:=omega) only [go_sem, Φa, hP, h4_27, h4_2, h4_3, hops]
      refine hK8 _ _ ?_
      try clear hK8 K8
      refine SX.block ?_
      refine SX.live [2, 3, 5] (fun T5 hT5 => ?_)
      simp only [forall_mem_cons', forall_mem_nil', go_sem, Φa, hP, h4_27, h4_2, h4_3] at hT5
      obtain ⟨h5_2, h5_3, h5_5⟩ := hT5
      clear h4_27 h4_2 h4_3 T4
      refine SX.loop_k (fun (ss : (Nat)) T L' => (fun (k : Nat) => T 5 = .int .i64 (k : Int) ∧ T 2 = T5 2 ∧ T 3 = T5 3 ∧ L' = some (b1, .cells (f.cells (.slice B f.rows.length d)).toArray 41 (0, 0)) :: some (b0, .cells (f.cells (.slice A f.rows.length c)).toArray 41 (0, 0)) :: L ∧ (k ≤ f.rows.length)) (ss)) (fun (ss : (Nat)) => (fun (k : Nat) => f.rows.length - k) (ss)) 0 ?_ ?_
      · try dsimp only
        refine ⟨?_, ?_, ?_, ?_, ?_⟩
        · first | exact h5_5 | (rw [h5_5]; rfl) | (rw [h5_5]; simp; done)
        · rfl
        · rfl
        · rfl
        · exact Nat.zero_le _
      · intro k T6 L6 hI K9 hK9
        try dsimp only at hI hK9
        simp only [h5_2, h5_3] at hI hK9
        obtain ⟨h6_5, h6_2, h6_3, hL6, hk⟩ := hI
        replace hL6 := hL6.symm
        subst hL6
        clear h5_2 h5_3 h5_5 T5
        refine SX.seq_k fun K10 hK10 => ?_
        refine SX.seq_k fun K11 hK11 => ?_
        refine SX.region_d [some 28, some 29, some 30, some 31, some 32] rfl (fun ops hops => ?_)
        unfold Dsts at hops
        simp (maxSteps:=1000000)(dsimp:=false)(disch:=omega) only [go_sem, Φa, hP, h6_5, h6_2, h6_3, hops]
        refine ⟨_, Cell.at 1 rfl (show (Fm.cells _ _)[1]? = _ from rfl), ?_⟩
        try with_reducible refine stI ?_
        try simp (maxSteps:=1000000)(dsimp:=false)(disch:=omega) only [go_sem, Φa, hP, h6_5, h6_2, h6_3, hops]
        refine hK11 _ _ ?_
        try clear hK11 K11
        refine SX.cond_k fun X12 Y12 hX12 hY12 => ?_
        simp (maxSteps:=1000000)(dsimp:=false)(disch:=omega) only [go_sem, Φa, hP, h6_5, h6_2, h6_3, condVC]
        refine ⟨fun hc32 => hX12 ?_, fun hc32 => hY12 ?_⟩
        · clear hX12 hY12 X12 Y12
          refine SX.skip ?_
          try simp only [andThen_normal, andThen_ret, andThen_exit, inBlk_normal, inBlk_ret, inBlk_exit, Nat.reduceEqDiff, if_true, if_false, ↓reduceIte]
          refine hK10 _ _ ?_
          try clear hK10 K10
          refine SX.seq_k fun K13 hK13 => ?_
          refine SX.block ?_
          refine SX.seq_k fun K14 hK14 => ?_
          have hkl : k < f.rows.length := by omega
          obtain ⟨Ak, ck, hm1, hck, hs1⟩ := hA1 k hkl
          obtain ⟨Bk, dk, hm2, hdk, hs2⟩ := hA2 k hkl
          have hca := cnt_at hkl
          have hsb := fun (p q : Slot) => SameBytes_true (L := p :: q :: L) hP (SlI.cons p (SlI.cons q hs1)) (SlI.cons p (SlI.cons q hs2)) (by omega)
          refine SX.quiet_d (hP ▸ T.mixed) (by kernel_rfl) [some 35, some 36, some 37, some 38, some 39, some 40, some 41, some 42, some 43, some 44, some 45, some 6] rfl (fun ops hops => ?_)
          unfold Dsts at hops
          simp (maxSteps:=1000000)(dsimp:=false)(disch:=omega) only [go_sem, Φa, hP, h6_5, h6_2, h6_3, hops, ia_at e1, ia_at e2]
          repeat' ((first | refine ⟨_, Cell.at 1 rfl (show (Fm.cells _ _)[1]? = _ from rfl), ?_⟩ | refine ⟨_, Cell.at 0 rfl (show (Fm.cells _ _)[1]? = _ from rfl), ?_⟩ | refine ⟨_, Cell.cons _ (Cell.cons _ hm1), ?_⟩ | refine ⟨_, Cell.cons _ (Cell.cons _ hm2), ?_⟩ | refine ⟨_, hsb _ _, ?_⟩ | refine ⟨_, Cell.at 0 rfl rfl, ?_⟩ | refine ⟨_, Cell.at 1 rfl rfl, ?_⟩ | refine ⟨_, Cell.at 2 rfl rfl, ?_⟩ | refine ⟨_, Cell.at 3 rfl rfl, ?_⟩ | refine And.intro (by omega) ?_ | fail); try (with_reducible refine stI ?_); try simp (maxSteps:=1000000)(dsimp:=false)(disch:=omega) only [go_sem, Φa, hP, h6_5, h6_2, h6_3, hops, ia_at e1, ia_at e2])
          refine hK14 _ _ ?_
          try clear hK14 K14
          refine SX.live [2, 3, 5, 6] (fun T7 hT7 => ?_)
          simp only [forall_mem_cons', forall_mem_nil', go_sem, Φa, hP, h6_5, h6_2, h6_3] at hT7
          obtain ⟨h7_2, h7_3, h7_5, h7_6⟩ := hT7
          clear h6_5 h6_2 h6_3 T6
          refine SX.seq_k fun K15 hK15 => ?_
          refine SX.region_d [some 46, some 47] rfl (fun ops hops => ?_)
          unfold Dsts at hops
          simp (maxSteps:=1000000)(dsimp:=false)(disch:=omega) only [go_sem, Φa, hP, h7_2, h7_3, h7_5, h7_6, hops]
          refine hK15 _ _ ?_
          try clear hK15 K15
          refine SX.cond_k fun X16 Y16 hX16 hY16 => ?_
          simp (maxSteps:=1000000)(dsimp:=false)(disch:=omega) only [go_sem, Φa, hP, h7_2, h7_3, h7_5, h7_6, condVC]
          refine hY16 ?_
          clear hX16 hY16 X16 Y16
          refine SX.skip ?_
          try simp only [andThen_normal, andThen_ret, andThen_exit, inBlk_normal, inBlk_ret, inBlk_exit, Nat.reduceEqDiff, if_true, if_false, ↓reduceIte]
          refine hK13 _ _ ?_
          try clear hK13 K13
          refine SX.region_d [some 33, some 34, some 5] rfl (fun ops hops => ?_)
          unfold Dsts at hops
          simp (maxSteps:=1000000)(dsimp:=false)(disch:=omega) only [go_sem, Φa, hP, h7_2, h7_3, h7_5, h7_6, hops]
          repeat' ((first | refine And.intro (by omega) ?_ | fail); try (with_reducible refine stI ?_); try simp (maxSteps:=1000000)(dsimp:=false)(disch:=omega) only [go_sem, Φa, hP, h7_2, h7_3, h7_5, h7_6, hops])
          refine hK9 (k + 1) _ (some (b1, .cells (f.cells (.slice B f.rows.length d)).toArray 41 (0, 0)) :: some (b0, .cells (f.cells (.slice A f.rows.length c)).toArray 41 (0, 0)) :: L) _ (by (try simp (disch := omega) only [e1, e2]); exact Less.refl _) ?_ ?_
          · try dsimp only
            refine ⟨?_, ?_, ?_, ?_, ?_⟩
            · simp (maxSteps:=1000000)(dsimp:=false)(disch:=omega) only [go_sem, Φa, hP, h7_2, h7_3, h7_5, h7_6]
              first | done | rfl | skip
            · simp (maxSteps:=1000000)(dsimp:=false)(disch:=omega) only [go_sem, Φa, hP, h7_2, h7_3, h7_5, h7_6]
            · simp (maxSteps:=1000000)(dsimp:=false)(disch:=omega) only [go_sem, Φa, hP, h7_2, h7_3, h7_5, h7_6]
            · rfl
            · omega
          · (try dsimp only); omega
        · clear hX12 hY12 X12 Y12
          refine SX.exit ?_
          try simp only [andThen_normal, andThen_ret, andThen_exit, inBlk_normal, inBlk_ret, inBlk_exit, Nat.reduceEqDiff, if_true, if_false, ↓reduceIte]
          refine hK7 _ _ ?_
          try clear hK7 K7
          refine SX.seq_k fun K17 hK17 => ?_
          refine SX.region_d [some 4] rfl (fun ops hops => ?_)
          unfold Dsts at hops
          simp (maxSteps:=1000000)(dsimp:=false)(disch:=omega) only [go_sem, Φa, hP, h6_5, h6_2, h6_3, hops]
          refine hK17 _ _ ?_
          try clear hK17 K17
          refine SX.ret ?_
          simp only [andThen_normal, andThen_ret, andThen_exit, inBlk_normal, inBlk_ret, inBlk_exit, Nat.reduceEqDiff, if_true, if_false, ↓reduceIte, retQ_ret]
          try simp only [res0, res1, res2, res3, stK_e, go_sem, Φa, hP, h6_5, h6_2, h6_3]
          exact ⟨_, L, Less.drops (Less.drop _ _), rfl, rfl, rfl⟩

end Go.Proofs.YtpakphgeichopaaDoor
set_option linter.unusedVariables false
set_option linter.unusedSimpArgs false
namespace Go.Proofs.YtpakphgeichopaaDoor
open Go.RowKit Go.SX

theorem mayF_no {f : Fm} (h : (decide (f.at_ < 0) || decide (¬ f.rows.length = 128) || (f.sh != decide (cnt f.rows < 1024))) = true) : mayF f = false := by
  unfold mayF
  simp only [Bool.or_eq_true, decide_eq_true_eq, bne_iff_ne] at h
  rw [Bool.eq_false_iff]
  intro hc
  simp only [Bool.and_eq_true, decide_eq_true_eq, beq_iff_eq] at hc
  obtain ⟨⟨⟨h1, h2⟩, h3⟩, _⟩ := hc
  rcases h with (h | h) | h
  · omega
  · exact h h2
  · exact h h3
theorem mayF_wide {f : Fm} {k : Nat} (hk : k < f.rows.length) (h : 8 < (f.rows.getD k []).length) : mayF f = false := by
  unfold mayF
  rw [Bool.eq_false_iff]
  intro hc
  simp only [Bool.and_eq_true, decide_eq_true_eq] at hc
  have := hc.2 k hk
  omega
theorem mayF_last {f : Fm} (h : (decide (f.at_ < 0) || decide (¬ f.rows.length = 128)) = false) (hr : ∀ j, j < f.rows.length → (f.rows.getD j []).length ≤ 8) : mayF f = (f.sh == decide (cnt f.rows < 1024)) := by
  simp only [Bool.or_eq_false_iff, decide_eq_false_iff_not, Decidable.not_not] at h
  unfold mayF
  rw [decide_eq_true (by omega : 0 ≤ f.at_), decide_eq_true h.2, decide_eq_true hr, Bool.and_true]
  rfl
theorem mayF_yes {f : Fm} (h : (decide (f.at_ < 0) || decide (¬ f.rows.length = 128) || (f.sh != decide (cnt f.rows < 1024))) = false) (hr : ∀ j, j < f.rows.length → (f.rows.getD j []).length ≤ 8) : mayF f = true := by
  rw [Bool.or_eq_false_iff] at h
  rw [mayF_last h.1 hr, beq_iff_eq]
  simpa using h.2
theorem of_mayF {f : Fm} (h : mayF f = true) : 0 ≤ f.at_ ∧ f.rows.length = 128 ∧ f.sh = decide (cnt f.rows < 1024) ∧ ∀ j, j < f.rows.length → (f.rows.getD j []).length ≤ 8 := by
  unfold mayF at h
  simp only [Bool.and_eq_true, decide_eq_true_eq, beq_iff_eq] at h
  obtain ⟨⟨⟨h1, h2⟩, h3⟩, h4⟩ := h
  exact ⟨h1, h2, h3, h4⟩
set_option maxHeartbeats 1000000 in
set_option maxRecDepth 100000 in
theorem check_spec {Γ : Ctx} (hP : Γ.P = Tryd.prog) {L : Hp} {v : Value} {f : Fm} (hr : SlR (Cell Γ L) v f.rows) (hm : cnt f.rows ≤ 9000000000000000000) (hrl : f.rows.length ≤ 9000000000000000000) :
    SCall Γ 37 #[(.agg (f.cells v).toArray)] L (fun v L' => v = .bool (mayF f) ∧ L' = L) := by
  obtain ⟨A, c, rfl, hc⟩ := Sl.shape hr
  obtain ⟨a1, e1, _, hA⟩ := slR_at hr
  refine SCall.enter (n := 33) (res1 2) (hP ▸ Tryd.func37) rfl rfl (by simp) (res1_ok rfl) ?_
  refine SX.seq_k fun K1 hK1 => ?_
  refine SX.region_d [some 1, some 2] rfl (fun ops hops => ?_)
  unfold Dsts at hops
  simp (maxSteps := 1000000) (dsimp := false) (disch := omega) only [go_sem, ia_someH, hP, hops]
  intro b0
  try with_reducible refine stI ?_
  try simp (maxSteps := 1000000) (dsimp := false) (disch := omega) only [go_sem, ia_someH, hP, hops]
  refine hK1 _ _ ?_
  try clear hK1 K1
  refine SX.seq_k fun K2 hK2 => ?_
  refine SX.seq_k fun K3 hK3 => ?_
  refine SX.quiet_xd (hP ▸ T.mixed) (by kernel_rfl) [some 5, some 6, some 7, some 8, some 9, some 10, some 11, some 12, some 13, some 14, some 15, some 16, some 17, some 18, some 19, some 20, some 21] rfl (fun ops hops => ?_)
  unfold Dsts at hops
  refine QX.live [1] (fun T1 hT1 => ?_)
  simp only [forall_mem_cons', forall_mem_nil', go_sem, ia_someH, hP] at hT1
  have h1_1 := hT1; clear hT1
  refine QX.join 9 (fun (ss : Unit) T L' => T 13 = .bool (decide (f.at_ < 0) || decide (¬ f.rows.length = 128)) ∧ T 1 = T1 1 ∧ L' = some (b0, .cells (f.cells (.slice A f.rows.length c)).toArray 41 (0, 0)) :: L ∧ (True)) (fun K4 hK4 => ?_) ?_
  · simp only [h1_1] at hK4
    simp (maxSteps := 1000000) (dsimp := false) (disch := omega) only [go_sem, ia_someH, hP, h1_1, hops]
    repeat' (first | refine iteB (fun hg => ?_) (fun hg => ?_) | refine iteI (fun hg => ?_) (fun hg => ?_) | ((first | refine ⟨_, Cell.at 0 rfl (show (Fm.cells _ _)[0]? = _ from rfl), ?_⟩ | refine ⟨_, Cell.at 0 rfl (show (Fm.cells _ _)[1]? = _ from rfl), ?_⟩ | refine ⟨_, Cell.at 0 rfl (show (Fm.cells _ _)[2]? = _ from rfl), ?_⟩ | refine ⟨_, count_spec hP (SlR.mono (fun a v h => Cell.cons _ h) hr) hm hrl, ?_⟩ | refine ⟨_, Cell.at 0 rfl (show (Fm.cells _ _)[0]? = _ from rfl), _, Cell.at 0 rfl (show (Fm.cells _ _)[1]? = _ from rfl), _, Cell.at 0 rfl (show (Fm.cells _ _)[2]? = _ from rfl), ?_⟩ | refine And.intro (by omega) ?_ | refine ⟨_, Cell.at 0 rfl rfl, ?_⟩ | fail); try (with_reducible refine stI ?_); try simp (maxSteps := 1000000) (dsimp := false) (disch := omega) only [go_sem, ia_someH, hP, h1_1, hops]) | fail)
    all_goals
      refine hK4 () _ (some (b0, .cells (f.cells (.slice A f.rows.length c)).toArray 41 (0, 0)) :: L) _ (by rfl) ?_
      try dsimp only
      refine ⟨?_, ?_, ?_, ?_⟩
      · simp (maxSteps := 1000000) (dsimp := false) (disch := omega) only [go_sem, ia_someH, hP, h1_1]
        first | done | (refine congrArg Value.bool ?_; (try rw [show (decide ((cnt f.rows : Int) < 1024)) = decide (cnt f.rows < 1024) from decide_eq_decide.2 (by omega)]); first | (simp only [bne]; generalize (!(f.sh == decide (cnt f.rows < 1024))) = bb; cases bb <;> simp_all <;> done) | (simp_all; done) | (simp_all; omega))
      · simp (maxSteps := 1000000) (dsimp := false) (disch := omega) only [go_sem, ia_someH, hP, h1_1]
      · rfl
      · trivial
  · intro ss T2 L2 hE2 hI
    simp only [h1_1] at hI 
    obtain ⟨h2_13, h2_1, hL2, hinv⟩ := hI
    replace hL2 := hL2.symm
    subst hL2
    clear h1_1 T1
    clear hE2
    refine QX.live [1, 13] (fun T3 hT3 => ?_)
    simp only [forall_mem_cons', forall_mem_nil', go_sem, ia_someH, hP, h2_13, h2_1] at hT3
    obtain ⟨h3_1, h3_13⟩ := hT3
    clear h2_13 h2_1 T2
    refine QX.join 8 (fun (ss : Unit) T L' => T 21 = .bool (decide (f.at_ < 0) || decide (¬ f.rows.length = 128) || (f.sh != decide (cnt f.rows < 1024))) ∧ T 1 = T3 1 ∧ L' = some (b0, .cells (f.cells (.slice A f.rows.length c)).toArray 41 (0, 0)) :: L ∧ (True)) (fun K5 hK5 => ?_) ?_
    · simp only [h3_1] at hK5
      simp (maxSteps := 1000000) (dsimp := false) (disch := omega) only [go_sem, ia_someH, hP, h3_1, h3_13, hops]
      repeat' (first | refine iteB (fun hg => ?_) (fun hg => ?_) | refine iteI (fun hg => ?_) (fun hg => ?_) | ((first | refine ⟨_, Cell.at 0 rfl (show (Fm.cells _ _)[0]? = _ from rfl), ?_⟩ | refine ⟨_, Cell.at 0 rfl (show (Fm.cells _ _)[1]? = _ from rfl), ?_⟩ | refine ⟨_, Cell.at 0 rfl (show (Fm.cells _ _)[2]? = _ from rfl), ?_⟩ | refine ⟨_, count_spec hP (SlR.mono (fun a v h => Cell.cons _ h) hr) hm hrl, ?_⟩ | refine ⟨_, Cell.at 0 rfl (show (Fm.cells _ _)[0]? = _ from rfl), _, Cell.at 0 rfl (show (Fm.cells _ _)[1]? = _ from rfl), _, Cell.at 0 rfl (show (Fm.cells _ _)[2]? = _ from rfl), ?_⟩ | refine And.intro (by omega) ?_ | refine ⟨_, Cell.at 0 rfl rfl, _, Cell.at 0 rfl rfl, _, Cell.at 0 rfl rfl, ?_⟩ | refine ⟨_, Cell.at 0 rfl rfl, ?_⟩ | fail); try (with_reducible refine stI ?_); try simp (maxSteps := 1000000) (dsimp := false) (disch := omega) only [go_sem, ia_someH, hP, h3_1, h3_13, hops]) | fail)
      all_goals
        refine hK5 () _ (some (b0, .cells (f.cells (.slice A f.rows.length c)).toArray 41 (0, 0)) :: L) _ (by rfl) ?_
        try dsimp only
        refine ⟨?_, ?_, ?_, ?_⟩
        · simp (maxSteps := 1000000) (dsimp := false) (disch := omega) only [go_sem, ia_someH, hP, h3_1, h3_13]
          first | done | (refine congrArg Value.bool ?_; (try rw [show (decide ((cnt f.rows : Int) < 1024)) = decide (cnt f.rows < 1024) from decide_eq_decide.2 (by omega)]); first | (simp only [bne]; generalize (!(f.sh == decide (cnt f.rows < 1024))) = bb; cases bb <;> simp_all <;> done) | (simp_all; done) | (simp_all; omega))
        · simp (maxSteps := 1000000) (dsimp := false) (disch := omega) only [go_sem, ia_someH, hP, h3_1, h3_13]
        · rfl
        · trivial
    · intro ss T4 L4 hE4 hI
      simp only [h3_1] at hI 
      obtain ⟨h4_21, h4_1, hL4, hinv⟩ := hI
      replace hL4 := hL4.symm
      subst hL4
      clear h3_1 h3_13 T3
      clear hE4
      refine QX.done ?_
      simp (maxSteps := 1000000) (dsimp := false) (disch := omega) only [go_sem, ia_someH, hP, h4_21, h4_1, hops]
      refine hK3 _ _ ?_
      try clear hK3 K3
      refine SX.cond_k fun X6 Y6 hX6 hY6 => ?_
      simp (maxSteps := 1000000) (dsimp := false) (disch := omega) only [go_sem, ia_someH, hP, h4_21, h4_1, condVC]
      refine ⟨fun hc21 => hX6 ?_, fun hc21 => hY6 ?_⟩
      · clear hX6 hY6 X6 Y6
        refine SX.seq_k fun K7 hK7 => ?_
        refine SX.region_d [some 2] rfl (fun ops hops => ?_)
        unfold Dsts at hops
        simp (maxSteps := 1000000) (dsimp := false) (disch := omega) only [go_sem, ia_someH, hP, h4_21, h4_1, hops]
        refine hK7 _ _ ?_
        try clear hK7 K7
        refine SX.ret ?_
        simp only [andThen_normal, andThen_ret, andThen_exit, inBlk_normal, inBlk_ret, inBlk_exit, Nat.reduceEqDiff, if_true, if_false, ↓reduceIte, retQ_ret]
        try simp only [res0, res1, res2, res3, stK_e, go_sem, ia_someH, hP, h4_21, h4_1]
        refine ⟨_, L, Less.drop _ _, rfl, ?_, rfl⟩
        rw [mayF_no hc21]
      · clear hX6 hY6 X6 Y6
        refine SX.skip ?_
        try simp only [andThen_normal, andThen_ret, andThen_exit, inBlk_normal, inBlk_ret, inBlk_exit, Nat.reduceEqDiff, if_true, if_false, ↓reduceIte]
        refine hK2 _ _ ?_
        try clear hK2 K2
        refine SX.seq_k fun K8 hK8 => ?_
        refine SX.seq_k fun K9 hK9 => ?_
        have hc21' := hc21
        refine SX.region_d [some 22, some 23, some 24, some 25] rfl (fun ops hops => ?_)
        unfold Dsts at hops
        simp (maxSteps := 1000000) (dsimp := false) (disch := omega) only [go_sem, ia_someH, hP, h4_21, h4_1, hops]
        refine ⟨_, Cell.at 0 rfl (show (Fm.cells _ _)[1]? = _ from rfl), ?_⟩
        try with_reducible refine stI ?_
        try simp (maxSteps := 1000000) (dsimp := false) (disch := omega) only [go_sem, ia_someH, hP, h4_21, h4_1, hops]
        refine hK9 _ _ ?_
        try clear hK9 K9
        refine SX.block ?_
        refine SX.live [23, 24, 25] (fun T5 hT5 => ?_)
        simp only [forall_mem_cons', forall_mem_nil', go_sem, ia_someH, hP, h4_21, h4_1] at hT5
        obtain ⟨h5_23, h5_24, h5_25⟩ := hT5
        clear h4_21 h4_1 T4
        refine SX.loop_k (fun (ss : (Nat)) T L' => (fun (k : Nat) => T 25 = .int .i64 (k : Int) ∧ T 23 = T5 23 ∧ T 24 = T5 24 ∧ L' = some (b0, .cells (f.cells (.slice A f.rows.length c)).toArray 41 (0, 0)) :: L ∧ (k ≤ f.rows.length ∧ ∀ j, j < k → (f.rows.getD j []).length ≤ 8)) (ss)) (fun (ss : (Nat)) => (fun (k : Nat) => f.rows.length - k) (ss)) 0 ?_ ?_
        · try dsimp only
          refine ⟨?_, ?_, ?_, ?_, ?_⟩
          · first | exact h5_25 | (rw [h5_25]; rfl) | (rw [h5_25]; simp; done)
          · rfl
          · rfl
          · rfl
          · exact ⟨Nat.zero_le _, fun j hj => absurd hj (Nat.not_lt_zero _)⟩
        · intro k T6 L6 hI K10 hK10
          try dsimp only at hI hK10
          simp only [h5_23, h5_24] at hI hK10
          obtain ⟨h6_25, h6_23, h6_24, hL6, ⟨hk, hin⟩⟩ := hI
          replace hL6 := hL6.symm
          subst hL6
          clear h5_23 h5_24 h5_25 T5
          refine SX.seq_k fun K11 hK11 => ?_
          refine SX.region_d [some 26] rfl (fun ops hops => ?_)
          unfold Dsts at hops
          simp (maxSteps := 1000000) (dsimp := false) (disch := omega) only [go_sem, ia_someH, hP, h6_25, h6_23, h6_24, hops]
          repeat' ((first | refine And.intro (by omega) ?_ | fail); try (with_reducible refine stI ?_); try simp (maxSteps := 1000000) (dsimp := false) (disch := omega) only [go_sem, ia_someH, hP, h6_25, h6_23, h6_24, hops])
          refine hK11 _ _ ?_
          try clear hK11 K11
          refine SX.seq_k fun K12 hK12 => ?_
          refine SX.cond_k fun X13 Y13 hX13 hY13 => ?_
          simp (maxSteps := 1000000) (dsimp := false) (disch := omega) only [go_sem, ia_someH, hP, h6_25, h6_23, h6_24, condVC]
          refine ⟨fun hc26 => hX13 ?_, fun hc26 => hY13 ?_⟩
          · clear hX13 hY13 X13 Y13
            refine SX.skip ?_
            try simp only [andThen_normal, andThen_ret, andThen_exit, inBlk_normal, inBlk_ret, inBlk_exit, Nat.reduceEqDiff, if_true, if_false, ↓reduceIte]
            refine hK12 _ _ ?_
            try clear hK12 K12
            refine SX.seq_k fun K14 hK14 => ?_
            refine SX.block ?_
            refine SX.seq_k fun K15 hK15 => ?_
            have hkl : k < f.rows.length := by omega
            obtain ⟨Ak, ck, hck, hkc, hsk⟩ := hA k hkl
            refine SX.region_d [some 27, some 28, some 4] rfl (fun ops hops => ?_)
            unfold Dsts at hops
            simp (maxSteps := 1000000) (dsimp := false) (disch := omega) only [go_sem, ia_someH, hP, h6_25, h6_23, h6_24, hops, ia_at e1]
            refine ⟨_, Cell.cons _ hck, ?_⟩
            try with_reducible refine stI ?_
            try simp (maxSteps := 1000000) (dsimp := false) (disch := omega) only [go_sem, ia_someH, hP, h6_25, h6_23, h6_24, hops, ia_at e1]
            refine hK15 _ _ ?_
            try clear hK15 K15
            refine SX.seq_k fun K16 hK16 => ?_
            refine SX.region_d [some 29, some 30, some 31] rfl (fun ops hops => ?_)
            unfold Dsts at hops
            simp (maxSteps := 1000000) (dsimp := false) (disch := omega) only [go_sem, ia_someH, hP, h6_25, h6_23, h6_24, hops]
            repeat' ((first | refine And.intro (by omega) ?_ | fail); try (with_reducible refine stI ?_); try simp (maxSteps := 1000000) (dsimp := false) (disch := omega) only [go_sem, ia_someH, hP, h6_25, h6_23, h6_24, hops])
            refine hK16 _ _ ?_
            try clear hK16 K16
            refine SX.cond_k fun X17 Y17 hX17 hY17 => ?_
            simp (maxSteps := 1000000) (dsimp := false) (disch := omega) only [go_sem, ia_someH, hP, h6_25, h6_23, h6_24, condVC]
            refine ⟨fun hc31 => hX17 ?_, fun hc31 => hY17 ?_⟩
            · clear hX17 hY17 X17 Y17
              refine SX.seq_k fun K18 hK18 => ?_
              refine SX.region_d [some 2] rfl (fun ops hops => ?_)
              unfold Dsts at hops
              simp (maxSteps := 1000000) (dsimp := false) (disch := omega) only [go_sem, ia_someH, hP, h6_25, h6_23, h6_24, hops]
              refine hK18 _ _ ?_
              try clear hK18 K18
              refine SX.ret ?_
              simp only [andThen_normal, andThen_ret, andThen_exit, inBlk_normal, inBlk_ret, inBlk_exit, Nat.reduceEqDiff, if_true, if_false, ↓reduceIte, retQ_ret]
              try simp only [res0, res1, res2, res3, stK_e, go_sem, ia_someH, hP, h6_25, h6_23, h6_24]
              refine ⟨_, L, Less.drop _ _, rfl, ?_, rfl⟩
              rw [mayF_wide hkl (by omega)]
            · clear hX17 hY17 X17 Y17
              refine SX.skip ?_
              try simp only [andThen_normal, andThen_ret, andThen_exit, inBlk_normal, inBlk_ret, inBlk_exit, Nat.reduceEqDiff, if_true, if_false, ↓reduceIte]
              refine hK14 _ _ ?_
              try clear hK14 K14
              refine SX.region_d [some 32, some 25] rfl (fun ops hops => ?_)
              unfold Dsts at hops
              simp (maxSteps := 1000000) (dsimp := false) (disch := omega) only [go_sem, ia_someH, hP, h6_25, h6_23, h6_24, hops]
              repeat' ((first | refine And.intro (by omega) ?_ | fail); try (with_reducible refine stI ?_); try simp (maxSteps := 1000000) (dsimp := false) (disch := omega) only [go_sem, ia_someH, hP, h6_25, h6_23, h6_24, hops])
              refine hK10 (k + 1) _ (some (b0, .cells (f.cells (.slice A f.rows.length c)).toArray 41 (0, 0)) :: L) _ (by first | exact Less.refl _ | exact Less.drop _ _ | exact Less.drops (Less.drop _ _) | exact Less.drops (Less.drops (Less.drop _ _)) | exact Less.drops (Less.drops (Less.drops (Less.drop _ _))) | exact Less.drops (Less.drops (Less.drops (Less.drops (Less.drop _ _))))) ?_ ?_
              · try dsimp only
                refine ⟨?_, ?_, ?_, ?_, ?_⟩
                · simp (maxSteps := 1000000) (dsimp := false) (disch := omega) only [go_sem, ia_someH, hP, h6_25, h6_23, h6_24]
                  first | done | rfl | skip
                · simp (maxSteps := 1000000) (dsimp := false) (disch := omega) only [go_sem, ia_someH, hP, h6_25, h6_23, h6_24]
                · simp (maxSteps := 1000000) (dsimp := false) (disch := omega) only [go_sem, ia_someH, hP, h6_25, h6_23, h6_24]
                · rfl
                · refine ⟨by omega, fun j hj => ?_⟩
                  rcases Nat.lt_succ_iff_lt_or_eq.1 hj with h | rfl
                  · exact hin j h
                  · omega
              · (try dsimp only); omega
          · clear hX13 hY13 X13 Y13
            refine SX.exit ?_
            try simp only [andThen_normal, andThen_ret, andThen_exit, inBlk_normal, inBlk_ret, inBlk_exit, Nat.reduceEqDiff, if_true, if_false, ↓reduceIte]
            refine hK8 _ _ ?_
            try clear hK8 K8
            refine SX.seq_k fun K19 hK19 => ?_
            refine SX.region_d [some 2] rfl (fun ops hops => ?_)
            unfold Dsts at hops
            simp (maxSteps := 1000000) (dsimp := false) (disch := omega) only [go_sem, ia_someH, hP, h6_25, h6_23, h6_24, hops]
            refine hK19 _ _ ?_
            try clear hK19 K19
            refine SX.ret ?_
            simp only [andThen_normal, andThen_ret, andThen_exit, inBlk_normal, inBlk_ret, inBlk_exit, Nat.reduceEqDiff, if_true, if_false, ↓reduceIte, retQ_ret]
            try simp only [res0, res1, res2, res3, stK_e, go_sem, ia_someH, hP, h6_25, h6_23, h6_24]
            refine ⟨_, L, Less.drop _ _, rfl, ?_, rfl⟩
            rw [mayF_yes hc21 (fun j hj => hin j (by omega))]
end Go.Proofs.YtpakphgeichopaaDoor
set_option linter.unusedVariables false
set_option linter.unusedSimpArgs false
namespace Go.Proofs.YtpakphgeichopaaDoor
open Go.RowKit Go.SX

def chkL (l : List Rc) : Int := if 4194304 < l.length then 2 else if ∀ j, j < l.length → mayB (l.getD j default) = true then 0 else 1
theorem chkL_long {l : List Rc} (h : 4194304 < l.length) : chkL l = 2 := if_pos h
theorem chkL_bad {l : List Rc} {k : Nat} (h : ¬ 4194304 < l.length) (hk : k < l.length) (hb : mayB (l.getD k default) = false) : chkL l = 1 := by
  unfold chkL
  rw [if_neg h, if_neg (fun hh => by rw [hh k hk] at hb; cases hb)]
theorem chkL_good {l : List Rc} (h : ¬ 4194304 < l.length) (hb : ∀ j, j < l.length → mayB (l.getD j default) = true) : chkL l = 0 := by
  unfold chkL
  rw [if_neg h, if_pos hb]
theorem chkL_zero {l : List Rc} (h : chkL l = 0) : l.length ≤ 4194304 ∧ ∀ j, j < l.length → mayB (l.getD j default) = true := by
  unfold chkL at h
  split at h
  · cases h
  · split at h
    · rename_i h1 h2; exact ⟨by omega, h2⟩
    · cases h
set_option maxHeartbeats 1000000 in
set_option maxRecDepth 100000 in
theorem refCheckL_spec {Γ : Ctx} (hP : Γ.P = Tryd.prog) {L : Hp} {v : Value} {l : List Rc} (hl : SlC (Cell Γ L) v l) :
    SCall Γ 34 #[v] L (fun v L' => v = .int .i64 (chkL l) ∧ L' = L) := by
  obtain ⟨A, c, rfl, hc⟩ := Sl.shape hl
  obtain ⟨a1, e1, _, hA⟩ := Sl.at1 hl
  refine SCall.enter (n := 21) (res1 2) (hP ▸ Tryd.func34) rfl rfl (by simp) (res1_ok rfl) ?_
  refine SX.seq_k fun K1 hK1 => ?_
  refine SX.region_d [some 2] rfl (fun ops hops => ?_)
  unfold Dsts at hops
  simp (maxSteps := 1000000) (dsimp := false) (disch := omega) only [go_sem, ia_someH, hP, hops]
  refine hK1 _ _ ?_
  try clear hK1 K1
  refine SX.seq_k fun K2 hK2 => ?_
  refine SX.seq_k fun K3 hK3 => ?_
  refine SX.region_d [some 5, some 6, some 7] rfl (fun ops hops => ?_)
  unfold Dsts at hops
  simp (maxSteps := 1000000) (dsimp := false) (disch := omega) only [go_sem, ia_someH, hP, hops]
  repeat' ((first | refine And.intro (by omega) ?_ | fail); try (with_reducible refine stI ?_); try simp (maxSteps := 1000000) (dsimp := false) (disch := omega) only [go_sem, ia_someH, hP, hops])
  refine hK3 _ _ ?_
  try clear hK3 K3
  refine SX.cond_k fun X4 Y4 hX4 hY4 => ?_
  simp (maxSteps := 1000000) (dsimp := false) (disch := omega) only [go_sem, ia_someH, hP, condVC]
  refine ⟨fun hc7 => hX4 ?_, fun hc7 => hY4 ?_⟩
  · clear hX4 hY4 X4 Y4
    refine SX.seq_k fun K5 hK5 => ?_
    refine SX.region_d [some 2] rfl (fun ops hops => ?_)
    unfold Dsts at hops
    simp (maxSteps := 1000000) (dsimp := false) (disch := omega) only [go_sem, ia_someH, hP, hops]
    refine hK5 _ _ ?_
    try clear hK5 K5
    refine SX.ret ?_
    simp only [andThen_normal, andThen_ret, andThen_exit, inBlk_normal, inBlk_ret, inBlk_exit, Nat.reduceEqDiff, if_true, if_false, ↓reduceIte, retQ_ret]
    try simp only [res0, res1, res2, res3, stK_e, go_sem, ia_someH, hP]
    refine ⟨_, L, Less.refl _, rfl, ?_, rfl⟩
    rw [chkL_long (by omega)]
  · clear hX4 hY4 X4 Y4
    refine SX.skip ?_
    try simp only [andThen_normal, andThen_ret, andThen_exit, inBlk_normal, inBlk_ret, inBlk_exit, Nat.reduceEqDiff, if_true, if_false, ↓reduceIte]
    refine hK2 _ _ ?_
    try clear hK2 K2
    refine SX.seq_k fun K6 hK6 => ?_
    refine SX.seq_k fun K7 hK7 => ?_
    refine SX.region_d [some 3] rfl (fun ops hops => ?_)
    unfold Dsts at hops
    simp (maxSteps := 1000000) (dsimp := false) (disch := omega) only [go_sem, ia_someH, hP, hops]
    refine hK7 _ _ ?_
    try clear hK7 K7
    refine SX.block ?_
    refine SX.live [0, 3] (fun T1 hT1 => ?_)
    simp only [forall_mem_cons', forall_mem_nil', go_sem, ia_someH, hP] at hT1
    obtain ⟨h1_0, h1_3⟩ := hT1
    refine SX.loop_k (fun (ss : (Nat)) T L' => (fun (k : Nat) => T 3 = .int .i64 (k : Int) ∧ T 0 = T1 0 ∧ L' = L ∧ (k ≤ l.length ∧ ∀ j, j < k → mayB (l.getD j default) = true)) (ss)) (fun (ss : (Nat)) => (fun (k : Nat) => l.length - k) (ss)) 0 ?_ ?_
    · try dsimp only
      refine ⟨?_, ?_, ?_, ?_⟩
      · first | exact h1_3 | (rw [h1_3]; rfl) | (rw [h1_3]; simp; done)
      · rfl
      · rfl
      · exact ⟨Nat.zero_le _, fun j hj => absurd hj (Nat.not_lt_zero _)⟩
    · intro k T2 L2 hI K8 hK8
      try dsimp only at hI hK8
      simp only [h1_0] at hI hK8
      obtain ⟨h2_3, h2_0, hL2, ⟨hk, hin⟩⟩ := hI
      replace hL2 := hL2.symm
      subst hL2
      clear h1_0 h1_3 T1
      refine SX.seq_k fun K9 hK9 => ?_
      refine SX.seq_k fun K10 hK10 => ?_
      refine SX.region_d [some 8, some 9, some 10, some 11] rfl (fun ops hops => ?_)
      unfold Dsts at hops
      simp (maxSteps := 1000000) (dsimp := false) (disch := omega) only [go_sem, ia_someH, hP, h2_3, h2_0, hops]
      repeat' ((first | refine And.intro (by omega) ?_ | fail); try (with_reducible refine stI ?_); try simp (maxSteps := 1000000) (dsimp := false) (disch := omega) only [go_sem, ia_someH, hP, h2_3, h2_0, hops])
      refine hK10 _ _ ?_
      try clear hK10 K10
      refine SX.cond_k fun X11 Y11 hX11 hY11 => ?_
      simp (maxSteps := 1000000) (dsimp := false) (disch := omega) only [go_sem, ia_someH, hP, h2_3, h2_0, condVC]
      refine ⟨fun hc11 => hX11 ?_, fun hc11 => hY11 ?_⟩
      · clear hX11 hY11 X11 Y11
        refine SX.skip ?_
        try simp only [andThen_normal, andThen_ret, andThen_exit, inBlk_normal, inBlk_ret, inBlk_exit, Nat.reduceEqDiff, if_true, if_false, ↓reduceIte]
        refine hK9 _ _ ?_
        try clear hK9 K9
        refine SX.seq_k fun K12 hK12 => ?_
        refine SX.block ?_
        refine SX.seq_k fun K13 hK13 => ?_
        have hkl : k < l.length := by omega
        have hck := hA k _ (getD_get (d := default) hkl)
        refine SX.region_d [some 14, some 15, some 16, some 17, some 18, some 4] rfl (fun ops hops => ?_)
        unfold Dsts at hops
        simp (maxSteps := 1000000) (dsimp := false) (disch := omega) only [go_sem, ia_someH, hP, h2_3, h2_0, hops, ia_at e1]
        refine ⟨_, hck 0 _ rfl, _, hck 1 _ rfl, _, hck 2 _ rfl, _, hck 3 _ rfl, _, hck 4 _ rfl, _, hck 5 _ rfl, _, hck 6 _ rfl, _, hck 7 _ rfl, ?_⟩
        try with_reducible refine stI ?_
        try simp (maxSteps := 1000000) (dsimp := false) (disch := omega) only [go_sem, ia_someH, hP, h2_3, h2_0, hops, ia_at e1]
        refine SCall.mono (refMay_spec hP (x := l.getD k default)) ?_
        rintro v_ L_ ⟨hv_, hL_⟩
        rw [hv_, hL_]
        clear hv_ hL_ v_ L_
        try with_reducible refine stI ?_
        try simp (maxSteps := 1000000) (dsimp := false) (disch := omega) only [go_sem, ia_someH, hP, h2_3, h2_0, hops, ia_at e1]
        refine hK13 _ _ ?_
        try clear hK13 K13
        refine SX.live [0, 3, 4] (fun T3 hT3 => ?_)
        simp only [forall_mem_cons', forall_mem_nil', go_sem, ia_someH, hP, h2_3, h2_0] at hT3
        obtain ⟨h3_0, h3_3, h3_4⟩ := hT3
        clear h2_3 h2_0 T2
        refine SX.seq_k fun K14 hK14 => ?_
        refine SX.region_d [some 19, some 20] rfl (fun ops hops => ?_)
        unfold Dsts at hops
        simp (maxSteps := 1000000) (dsimp := false) (disch := omega) only [go_sem, ia_someH, hP, h3_0, h3_3, h3_4, hops]
        refine hK14 _ _ ?_
        try clear hK14 K14
        refine SX.cond_k fun X15 Y15 hX15 hY15 => ?_
        simp (maxSteps := 1000000) (dsimp := false) (disch := omega) only [go_sem, ia_someH, hP, h3_0, h3_3, h3_4, condVC]
        refine ⟨fun hc20 => hX15 ?_, fun hc20 => hY15 ?_⟩
        · clear hX15 hY15 X15 Y15
          refine SX.seq_k fun K16 hK16 => ?_
          refine SX.region_d [some 2] rfl (fun ops hops => ?_)
          unfold Dsts at hops
          simp (maxSteps := 1000000) (dsimp := false) (disch := omega) only [go_sem, ia_someH, hP, h3_0, h3_3, h3_4, hops]
          refine hK16 _ _ ?_
          try clear hK16 K16
          refine SX.ret ?_
          simp only [andThen_normal, andThen_ret, andThen_exit, inBlk_normal, inBlk_ret, inBlk_exit, Nat.reduceEqDiff, if_true, if_false, ↓reduceIte, retQ_ret]
          try simp only [res0, res1, res2, res3, stK_e, go_sem, ia_someH, hP, h3_0, h3_3, h3_4]
          refine ⟨_, L, Less.refl _, rfl, ?_, rfl⟩
          rw [chkL_bad (by omega) hkl (by simpa using hc20)]
        · clear hX15 hY15 X15 Y15
          refine SX.skip ?_
          try simp only [andThen_normal, andThen_ret, andThen_exit, inBlk_normal, inBlk_ret, inBlk_exit, Nat.reduceEqDiff, if_true, if_false, ↓reduceIte]
          refine hK12 _ _ ?_
          try clear hK12 K12
          refine SX.region_d [some 12, some 13, some 3] rfl (fun ops hops => ?_)
          unfold Dsts at hops
          simp (maxSteps := 1000000) (dsimp := false) (disch := omega) only [go_sem, ia_someH, hP, h3_0, h3_3, h3_4, hops]
          repeat' ((first | refine And.intro (by omega) ?_ | fail); try (with_reducible refine stI ?_); try simp (maxSteps := 1000000) (dsimp := false) (disch := omega) only [go_sem, ia_someH, hP, h3_0, h3_3, h3_4, hops])
          refine hK8 (k + 1) _ (L) _ (by first | exact Less.refl _ | exact Less.drop _ _ | exact Less.drops (Less.drop _ _) | exact Less.drops (Less.drops (Less.drop _ _)) | exact Less.drops (Less.drops (Less.drops (Less.drop _ _))) | exact Less.drops (Less.drops (Less.drops (Less.drops (Less.drop _ _))))) ?_ ?_
          · try dsimp only
            refine ⟨?_, ?_, ?_, ?_⟩
            · simp (maxSteps := 1000000) (dsimp := false) (disch := omega) only [go_sem, ia_someH, hP, h3_0, h3_3, h3_4]
              first | done | rfl | skip
            · simp (maxSteps := 1000000) (dsimp := false) (disch := omega) only [go_sem, ia_someH, hP, h3_0, h3_3, h3_4]
            · rfl
            · refine ⟨by omega, fun j hj => ?_⟩
              rcases Nat.lt_succ_iff_lt_or_eq.1 hj with h | rfl
              · exact hin j h
              · simpa using hc20
          · (try dsimp only); omega
      · clear hX11 hY11 X11 Y11
        refine SX.exit ?_
        try simp only [andThen_normal, andThen_ret, andThen_exit, inBlk_normal, inBlk_ret, inBlk_exit, Nat.reduceEqDiff, if_true, if_false, ↓reduceIte]
        refine hK6 _ _ ?_
        try clear hK6 K6
        refine SX.seq_k fun K17 hK17 => ?_
        refine SX.region_d [some 2] rfl (fun ops hops => ?_)
        unfold Dsts at hops
        simp (maxSteps := 1000000) (dsimp := false) (disch := omega) only [go_sem, ia_someH, hP, h2_3, h2_0, hops]
        refine hK17 _ _ ?_
        try clear hK17 K17
        refine SX.ret ?_
        simp only [andThen_normal, andThen_ret, andThen_exit, inBlk_normal, inBlk_ret, inBlk_exit, Nat.reduceEqDiff, if_true, if_false, ↓reduceIte, retQ_ret]
        try simp only [res0, res1, res2, res3, stK_e, go_sem, ia_someH, hP, h2_3, h2_0]
        refine ⟨_, L, Less.refl _, rfl, ?_, rfl⟩
        rw [chkL_good (by omega) (fun j hj => hin j (by omega))]
set_option maxHeartbeats 1000000 in
set_option maxRecDepth 100000 in
theorem SameAll_spec {Γ : Ctx} (hP : Γ.P = Tryd.prog) {L : Hp} {va vb : Value} {l : List Fm} (ha : SlF (Cell Γ L) va l) (hb : SlF (Cell Γ L) vb l) (hl : l.length ≤ 9000000000000000000) (hm : ∀ f ∈ l, cnt f.rows ≤ 9000000000000000000 ∧ f.rows.length ≤ 9000000000000000000) :
    SCall Γ 15 #[va, vb] L (fun v L' => v = .bool true ∧ L' = L) := by
  obtain ⟨A, c, rfl, hc⟩ := Sl.shape ha
  obtain ⟨B, d, rfl, hd⟩ := Sl.shape hb
  obtain ⟨a1, e1, _, hA1⟩ := Sl.at1 ha
  obtain ⟨a2, e2, _, hA2⟩ := Sl.at1 hb
  refine SCall.enter (n := 29) (res1 4) (hP ▸ Tryd.func15) rfl rfl (by simp) (res1_ok rfl) ?_
  refine SX.seq_k fun K1 hK1 => ?_
  refine SX.region_d [some 4] rfl (fun ops hops => ?_)
  unfold Dsts at hops
  simp (maxSteps := 1000000) (dsimp := false) (disch := omega) only [go_sem, ia_someH, hP, hops]
  refine hK1 _ _ ?_
  try clear hK1 K1
  refine SX.seq_k fun K2 hK2 => ?_
  refine SX.seq_k fun K3 hK3 => ?_
  refine SX.region_d [some 7, some 8, some 9, some 10, some 11] rfl (fun ops hops => ?_)
  unfold Dsts at hops
  simp (maxSteps := 1000000) (dsimp := false) (disch := omega) only [go_sem, ia_someH, hP, hops]
  repeat' ((first | refine And.intro (by omega) ?_ | fail); try (with_reducible refine stI ?_); try simp (maxSteps := 1000000) (dsimp := false) (disch := omega) only [go_sem, ia_someH, hP, hops])
  refine hK3 _ _ ?_
  try clear hK3 K3
  refine SX.cond_k fun X4 Y4 hX4 hY4 => ?_
  simp (maxSteps := 1000000) (dsimp := false) (disch := omega) only [go_sem, ia_someH, hP, condVC]
  refine hY4 ?_
  clear hX4 hY4 X4 Y4
  refine SX.skip ?_
  try simp only [andThen_normal, andThen_ret, andThen_exit, inBlk_normal, inBlk_ret, inBlk_exit, Nat.reduceEqDiff, if_true, if_false, ↓reduceIte]
  refine hK2 _ _ ?_
  try clear hK2 K2
  refine SX.seq_k fun K5 hK5 => ?_
  refine SX.seq_k fun K6 hK6 => ?_
  refine SX.region_d [some 5] rfl (fun ops hops => ?_)
  unfold Dsts at hops
  simp (maxSteps := 1000000) (dsimp := false) (disch := omega) only [go_sem, ia_someH, hP, hops]
  refine hK6 _ _ ?_
  try clear hK6 K6
  refine SX.block ?_
  refine SX.live [0, 1, 5] (fun T1 hT1 => ?_)
  simp only [forall_mem_cons', forall_mem_nil', go_sem, ia_someH, hP] at hT1
  obtain ⟨h1_0, h1_1, h1_5⟩ := hT1
  refine SX.loop_k (fun (ss : (Nat)) T L' => (fun (k : Nat) => T 5 = .int .i64 (k : Int) ∧ T 0 = T1 0 ∧ T 1 = T1 1 ∧ L' = L ∧ (k ≤ l.length)) (ss)) (fun (ss : (Nat)) => (fun (k : Nat) => l.length - k) (ss)) 0 ?_ ?_
  · try dsimp only
    refine ⟨?_, ?_, ?_, ?_, ?_⟩
    · first | exact h1_5 | (rw [h1_5]; rfl) | (rw [h1_5]; simp; done)
    · rfl
    · rfl
    · rfl
    · exact Nat.zero_le _
  · intro k T2 L2 hI K7 hK7
    try dsimp only at hI hK7
    simp only [h1_0, h1_1] at hI hK7
    obtain ⟨h2_5, h2_0, h2_1, hL2, hk⟩ := hI
    replace hL2 := hL2.symm
    subst hL2
    clear h1_0 h1_1 h1_5 T1
    refine SX.seq_k fun K8 hK8 => ?_
    refine SX.seq_k fun K9 hK9 => ?_
    refine SX.region_d [some 12, some 13, some 14, some 15] rfl (fun ops hops => ?_)
    unfold Dsts at hops
    simp (maxSteps := 1000000) (dsimp := false) (disch := omega) only [go_sem, ia_someH, hP, h2_5, h2_0, h2_1, hops]
    repeat' ((first | refine And.intro (by omega) ?_ | fail); try (with_reducible refine stI ?_); try simp (maxSteps := 1000000) (dsimp := false) (disch := omega) only [go_sem, ia_someH, hP, h2_5, h2_0, h2_1, hops])
    refine hK9 _ _ ?_
    try clear hK9 K9
    refine SX.cond_k fun X10 Y10 hX10 hY10 => ?_
    simp (maxSteps := 1000000) (dsimp := false) (disch := omega) only [go_sem, ia_someH, hP, h2_5, h2_0, h2_1, condVC]
    refine ⟨fun hc15 => hX10 ?_, fun hc15 => hY10 ?_⟩
    · clear hX10 hY10 X10 Y10
      refine SX.skip ?_
      try simp only [andThen_normal, andThen_ret, andThen_exit, inBlk_normal, inBlk_ret, inBlk_exit, Nat.reduceEqDiff, if_true, if_false, ↓reduceIte]
      refine hK8 _ _ ?_
      try clear hK8 K8
      refine SX.seq_k fun K11 hK11 => ?_
      refine SX.block ?_
      refine SX.seq_k fun K12 hK12 => ?_
      have hkl : k < l.length := by omega
      obtain ⟨r1, hc1, hs1⟩ := hA1 k _ (getD_get (d := default) hkl)
      obtain ⟨r2, hc2, hs2⟩ := hA2 k _ (getD_get (d := default) hkl)
      obtain ⟨hm1, hm2⟩ := hm _ (List.mem_of_getElem? (getD_get (d := default) hkl))
      refine SX.quiet_d (hP ▸ T.mixed) (by kernel_rfl) [some 18, some 19, some 20, some 21, some 22, some 23, some 24, some 25, some 26, some 6] rfl (fun ops hops => ?_)
      unfold Dsts at hops
      simp (maxSteps := 1000000) (dsimp := false) (disch := omega) only [go_sem, ia_someH, hP, h2_5, h2_0, h2_1, hops, ia_at e1, ia_at e2]
      repeat' ((first | refine ⟨_, hc1 0 _ rfl, _, hc1 1 _ rfl, _, hc1 2 _ rfl, ?_⟩ | refine ⟨_, hc2 0 _ rfl, _, hc2 1 _ rfl, _, hc2 2 _ rfl, ?_⟩ | refine ⟨_, Same_spec hP (f := l.getD k default) hs1 hs2 hm1 hm2, ?_⟩ | refine ⟨_, Cell.at 0 rfl rfl, ?_⟩ | refine ⟨_, Cell.at 1 rfl rfl, ?_⟩ | refine ⟨_, Cell.at 2 rfl rfl, ?_⟩ | refine ⟨_, Cell.at 3 rfl rfl, ?_⟩ | refine And.intro (by omega) ?_ | fail); try (with_reducible refine stI ?_); try simp (maxSteps := 1000000) (dsimp := false) (disch := omega) only [go_sem, ia_someH, hP, h2_5, h2_0, h2_1, hops, ia_at e1, ia_at e2])
      refine hK12 _ _ ?_
      try clear hK12 K12
      refine SX.live [0, 1, 5, 6] (fun T3 hT3 => ?_)
      simp only [forall_mem_cons', forall_mem_nil', go_sem, ia_someH, hP, h2_5, h2_0, h2_1] at hT3
      obtain ⟨h3_0, h3_1, h3_5, h3_6⟩ := hT3
      clear h2_5 h2_0 h2_1 T2
      refine SX.seq_k fun K13 hK13 => ?_
      refine SX.region_d [some 27, some 28] rfl (fun ops hops => ?_)
      unfold Dsts at hops
      simp (maxSteps := 1000000) (dsimp := false) (disch := omega) only [go_sem, ia_someH, hP, h3_0, h3_1, h3_5, h3_6, hops]
      refine hK13 _ _ ?_
      try clear hK13 K13
      refine SX.cond_k fun X14 Y14 hX14 hY14 => ?_
      simp (maxSteps := 1000000) (dsimp := false) (disch := omega) only [go_sem, ia_someH, hP, h3_0, h3_1, h3_5, h3_6, condVC]
      refine hY14 ?_
      clear hX14 hY14 X14 Y14
      refine SX.skip ?_
      try simp only [andThen_normal, andThen_ret, andThen_exit, inBlk_normal, inBlk_ret, inBlk_exit, Nat.reduceEqDiff, if_true, if_false, ↓reduceIte]
      refine hK11 _ _ ?_
      try clear hK11 K11
      refine SX.region_d [some 16, some 17, some 5] rfl (fun ops hops => ?_)
      unfold Dsts at hops
      simp (maxSteps := 1000000) (dsimp := false) (disch := omega) only [go_sem, ia_someH, hP, h3_0, h3_1, h3_5, h3_6, hops]
      repeat' ((first | refine And.intro (by omega) ?_ | fail); try (with_reducible refine stI ?_); try simp (maxSteps := 1000000) (dsimp := false) (disch := omega) only [go_sem, ia_someH, hP, h3_0, h3_1, h3_5, h3_6, hops])
      refine hK7 (k + 1) _ (L) _ (by first | exact Less.refl _ | exact Less.drop _ _ | exact Less.drops (Less.drop _ _) | exact Less.drops (Less.drops (Less.drop _ _)) | exact Less.drops (Less.drops (Less.drops (Less.drop _ _))) | exact Less.drops (Less.drops (Less.drops (Less.drops (Less.drop _ _))))) ?_ ?_
      · try dsimp only
        refine ⟨?_, ?_, ?_, ?_, ?_⟩
        · simp (maxSteps := 1000000) (dsimp := false) (disch := omega) only [go_sem, ia_someH, hP, h3_0, h3_1, h3_5, h3_6]
          first | done | rfl | skip
        · simp (maxSteps := 1000000) (dsimp := false) (disch := omega) only [go_sem, ia_someH, hP, h3_0, h3_1, h3_5, h3_6]
        · simp (maxSteps := 1000000) (dsimp := false) (disch := omega) only [go_sem, ia_someH, hP, h3_0, h3_1, h3_5, h3_6]
        · rfl
        · omega
      · (try dsimp only); omega
    · clear hX10 hY10 X10 Y10
      refine SX.exit ?_
      try simp only [andThen_normal, andThen_ret, andThen_exit, inBlk_normal, inBlk_ret, inBlk_exit, Nat.reduceEqDiff, if_true, if_false, ↓reduceIte]
      refine hK5 _ _ ?_
      try clear hK5 K5
      refine SX.seq_k fun K15 hK15 => ?_
      refine SX.region_d [some 4] rfl (fun ops hops => ?_)
      unfold Dsts at hops
      simp (maxSteps := 1000000) (dsimp := false) (disch := omega) only [go_sem, ia_someH, hP, h2_5, h2_0, h2_1, hops]
      refine hK15 _ _ ?_
      try clear hK15 K15
      refine SX.ret ?_
      simp only [andThen_normal, andThen_ret, andThen_exit, inBlk_normal, inBlk_ret, inBlk_exit, Nat.reduceEqDiff, if_true, if_false, ↓reduceIte, retQ_ret]
      try simp only [res0, res1, res2, res3, stK_e, go_sem, ia_someH, hP, h2_5, h2_0, h2_1]
      exact ⟨_, L, Less.refl _, rfl, rfl, rfl⟩

end Go.Proofs.YtpakphgeichopaaDoor
set_option linter.unusedVariables false
set_option linter.unusedSimpArgs false
namespace Go.Proofs.YtpakphgeichopaaDoor
open Go.RowKit Go.SX
/-! The memory of frames; what a trace's frames are. -/
theorem zerosV_one (x : Value) (n : Nat) : zerosV [x] n = List.replicate n x := by
  unfold zerosV
  induction n with
  | zero => rfl
  | succ n ih => rw [List.replicate_succ, List.flatten_cons, ih, List.replicate_succ]; rfl
theorem Less.nones (n : Nat) (L : Hp) : Less L (List.replicate n none ++ L) := by
  induction n with
  | zero => exact Less.refl L
  | succ n ih => exact ih.trans (Less.none _)
/-- A frame's memory: the block of its rows, and the rows' slots. -/
structure Fd where
  g : Nat
  vals : List Value
  ss : List Slot
def Fd.seg (d : Fd) : Hp := some (d.g, .cells d.vals.toArray 50 (0, 0)) :: d.ss
abbrev Fd.val (d : Fd) : Value := .slice (some ⟨d.g, 0, none⟩) 128 128
structure FdOk (rows : List (List Int)) (d : Fd) : Prop where
  n : rows.length = 128
  nv : d.vals.length = 128
  ns : d.ss.length = 128
  row : ∀ j, j < 128 → RowI .u8 5 (d.vals.getD j undef) (rows.getD j []) (d.ss.getD j none)
abbrev d0 (g : Nat) : Fd := ⟨g, List.replicate 128 (.slice none 0 0), List.replicate 128 none⟩
theorem rep_getD {α : Type} {n j : Nat} {x d : α} (h : j < n) : (List.replicate n x).getD j d = x := by
  rw [List.getD_eq_getElem?_getD, List.getElem?_replicate, if_pos h]; rfl
theorem FdOk.start (g : Nat) : FdOk (List.replicate 128 []) (d0 g) where
  n := List.length_replicate ..
  nv := List.length_replicate ..
  ns := List.length_replicate ..
  row j hj := by
    rw [rep_getD hj, rep_getD hj, rep_getD hj]
    exact RowI.nil .u8 5
theorem set_getD {α : Type} {l : List α} {j k : Nat} {x d : α} : (l.set k x).getD j d = if k = j ∧ k < l.length then x else l.getD j d := by
  rw [List.getD_eq_getElem?_getD, List.getElem?_set, List.getD_eq_getElem?_getD]
  by_cases h : k = j
  · subst h
    by_cases hk : k < l.length
    · rw [if_pos rfl, if_pos hk, if_pos ⟨rfl, hk⟩]; rfl
    · rw [if_pos rfl, if_neg hk, if_neg (fun h => hk h.2), List.getElem?_eq_none (by omega)]
  · rw [if_neg h, if_neg (fun hh => h hh.1)]
theorem FdOk.set {rows : List (List Int)} {d : Fd} (h : FdOk rows d) {k : Nat} (hk : k < 128) {v : Value} {s : Slot} {r : List Int} (hr : RowI .u8 5 v r s) : FdOk (rows.set k r) ⟨d.g, d.vals.set k v, d.ss.set k s⟩ where
  n := by rw [List.length_set]; exact h.n
  nv := by rw [List.length_set]; exact h.nv
  ns := by rw [List.length_set]; exact h.ns
  row j hj := by
    have h1 := h.n
    have h2 := h.nv
    have h3 := h.ns
    rw [set_getD, set_getD, set_getD]
    by_cases he : k = j
    · rw [if_pos ⟨he, by omega⟩, if_pos ⟨he, by omega⟩, if_pos ⟨he, by omega⟩]
      exact hr
    · rw [if_neg (fun h => he h.1), if_neg (fun h => he h.1), if_neg (fun h => he h.1)]
      exact h.row j hj
theorem FdOk.sl {Γ : Ctx} {L : Hp} {rows : List (List Int)} {d : Fd} (h : FdOk rows d) (hm : ∀ s, s ∈ d.seg → s ∈ L) : SlR (Cell Γ L) d.val rows := by
  have h1 := h.n
  have h2 := h.nv
  have h3 := h.ns
  refine ⟨_, 128, by rw [h1], by omega, fun j r hj => ⟨_, rfl, ?_⟩⟩
  have hjl : j < 128 := by have := (List.getElem?_eq_some_iff.1 hj).1; omega
  have hr := h.row j hjl
  rw [show rows.getD j [] = r by rw [List.getD_eq_getElem?_getD, hj]; rfl] at hr
  refine ⟨d.vals.getD j undef, ?_, ?_⟩
  · obtain ⟨i, hi⟩ := List.mem_iff_getElem?.1 (hm _ (List.mem_cons_self ..))
    rw [Nat.mul_one, Addr.add_lit, Nat.zero_add]
    exact Cell.at i hi (getD_get (d := undef) (by omega))
  · have hs : d.ss.getD j none ∈ L := hm _ (List.mem_cons_of_mem _ (List.mem_of_getElem? (getD_get (d := none) (by omega : j < d.ss.length))))
    obtain ⟨i, hi⟩ := List.mem_iff_getElem?.1 hs
    exact RowI.sl hr hi
/-- Frames and their memory. -/
abbrev Ff := Fm × Fd
def fval (p : Ff) : List Value := p.1.cells p.2.val
theorem fval_len (p : Ff) : (fval p).length = 3 := rfl
def segs : List Ff → Hp
  | [] => []
  | p :: l => segs l ++ p.2.seg
theorem segs_app (fs : List Ff) (p : Ff) : segs (fs ++ [p]) = p.2.seg ++ segs fs := by
  induction fs with
  | nil => simp [segs]
  | cons q fs ih => rw [List.cons_append, segs, segs, ih, List.append_assoc]
theorem mem_segs {fs : List Ff} {p : Ff} (hp : p ∈ fs) {s : Slot} (hs : s ∈ p.2.seg) : s ∈ segs fs := by
  induction fs with
  | nil => cases hp
  | cons q fs ih =>
    rw [segs]
    rcases List.mem_cons.1 hp with rfl | hp
    · exact List.mem_append_right _ hs
    · exact List.mem_append_left _ (ih hp)
def FsOk (fs : List Ff) : Prop := ∀ p ∈ fs, FdOk p.1.rows p.2
theorem FsOk.nil : FsOk [] := fun p hp => by cases hp
theorem FsOk.app {fs : List Ff} {p : Ff} (h : FsOk fs) (hp : FdOk p.1.rows p.2) : FsOk (fs ++ [p]) := fun q hq => by
  rcases List.mem_append.1 hq with hq | hq
  · exact h q hq
  · rw [List.mem_singleton.1 hq]; exact hp
abbrev RowF (v : Value) (fs : List Ff) (s : Slot) : Prop := RowL fval 41 3 v fs s
theorem Sl.map {α β : Type} {sz : Nat} {R : (Addr → Value → Prop) → Addr → α → Prop} {R' : (Addr → Value → Prop) → Addr → β → Prop} {C : Addr → Value → Prop} {v : Value} {xs : List α} {f : α → β} (h : Sl sz R C v xs) (hR : ∀ a x, x ∈ xs → R C a x → R' C a (f x)) : Sl sz R' C v (xs.map f) := by
  obtain ⟨A, c, h1, h2, h3⟩ := h
  refine ⟨A, c, by rw [List.length_map]; exact h1, by rw [List.length_map]; exact h2, fun j y hj => ?_⟩
  rw [List.getElem?_map] at hj
  obtain ⟨x, hx, rfl⟩ := Option.map_eq_some_iff.1 hj
  obtain ⟨a, e1, e2⟩ := h3 j x hx
  exact ⟨a, e1, hR _ _ (List.mem_of_getElem? hx) e2⟩
theorem RowF.sl {Γ : Ctx} {L : Hp} {v : Value} {fs : List Ff} {s : Slot} {i : Nat} (h : RowF v fs s) (hok : FsOk fs) (hL : L[i]? = some s) (hm : ∀ s, s ∈ segs fs → s ∈ L) : SlF (Cell Γ L) v (fs.map (·.1)) :=
  Sl.map (RowL.sl fval_len h hL) fun a p hp hc => ⟨p.2.val, hc, (hok p hp).sl fun s hs => hm s (mem_segs hp hs)⟩
/-- The frame that is open. -/
abbrev Nw := Option (Nat × Ff)
def nowH : Nw → Hp
  | none => []
  | some (g, p) => some (g, .cells (fval p).toArray 41 (0, 0)) :: p.2.seg
def nowP : Nw → Value
  | none => .pointer none
  | some (g, _) => .pointer (some ⟨g, 0, none⟩)
def nowS : Nw → Option (Int × List (List Int))
  | none => none
  | some (_, p) => some (p.1.at_, p.1.rows)
def NwOk (w : Nw) : Prop := ∀ q, w = some q → FdOk q.2.1.rows q.2.2 ∧ q.2.1.sh = false
structure St where
  ras : Ras
  now : Option (Int × List (List Int))
  out : List Fm
def atZ (x : Ras) : Bool := decide (x.1 = 0) && decide (x.2.1 = 0)
def begunN (x : Ras) (w : Option (Int × List (List Int))) (k : Int) : Option (Int × List (List Int)) := if atZ x = true then some (k, List.replicate 128 []) else w
def rasN (x : Ras) (r : Rc) : Ras := step x.1 x.2.1 x.2.2.1 x.2.2.2 r.code r.port r.rd r.wr r.md
def takesN (x : Ras) (r : Rc) : Bool := tB x.1 x.2.1 x.2.2.1 x.2.2.2 r.code r.rd
def lineN (x : Ras) : Nat := (x.1 - 80).toNat
def tookN (x : Ras) (r : Rc) (rows : List (List Int)) : List (List Int) := if takesN x r = true then rows.set (lineN x) (rows.getD (lineN x) [] ++ [r.data]) else rows
def shortB (rows : List (List Int)) : Bool := decide (cnt rows < 1024)
def stF (s : St) (k : Int) (r : Rc) : St := match begunN s.ras s.now k with
  | none => ⟨rasN s.ras r, none, s.out⟩
  | some (a, rows) => if atZ (rasN s.ras r) = true then ⟨rasN s.ras r, none, s.out ++ [⟨a, tookN s.ras r rows, shortB (tookN s.ras r rows)⟩]⟩ else ⟨rasN s.ras r, some (a, tookN s.ras r rows), s.out⟩
def stAt (x : Ras) (l : List Rc) : Nat → St
  | 0 => ⟨x, none, []⟩
  | k + 1 => stF (stAt x l k) k (l.getD k default)
theorem cnt_set {l : List (List Int)} {k : Nat} {x : Int} (h : k < l.length) : cnt (l.set k (l.getD k [] ++ [x])) = cnt l + 1 := by
  induction l generalizing k with
  | nil => simp at h
  | cons r l ih =>
    cases k with
    | zero => simp [cnt]; omega
    | succ k =>
      have := ih (k := k) (by simpa using h)
      rw [List.set_cons_succ, cnt, cnt]
      simp only [List.getD_cons_succ]
      omega
theorem cnt_rep (n : Nat) : cnt (List.replicate n []) = 0 := by
  induction n with
  | zero => rfl
  | succ n ih => rw [List.replicate_succ, cnt, ih]; rfl
theorem takesN_line {x : Ras} {r : Rc} (h : takesN x r = true) : lineN x < 128 ∧ 80 ≤ x.1 ∧ x.1 ≤ 207 := by
  unfold takesN tB wB at h
  simp only [Bool.and_eq_true, decide_eq_true_eq] at h
  obtain ⟨⟨⟨⟨⟨_, h1⟩, _⟩, _⟩, _⟩, _⟩ := h
  unfold lineN
  omega
theorem tookN_len (x : Ras) (r : Rc) (rows : List (List Int)) : (tookN x r rows).length = rows.length := by
  unfold tookN
  split
  · rw [List.length_set]
  · rfl
theorem tookN_cnt {x : Ras} {r : Rc} {rows : List (List Int)} (h : rows.length = 128) : cnt (tookN x r rows) ≤ cnt rows + 1 := by
  unfold tookN
  split
  · rename_i ht
    rw [cnt_set (by have := takesN_line ht; omega)]
    omega
  · omega
theorem stAt_cnt (x : Ras) (l : List Rc) : ∀ k, (∀ a rows, (stAt x l k).now = some (a, rows) → cnt rows ≤ k ∧ rows.length = 128) ∧ ∀ f ∈ (stAt x l k).out, cnt f.rows ≤ k ∧ f.rows.length = 128
  | 0 => ⟨fun a rows h => (by cases h), fun f hf => (by cases hf)⟩
  | k + 1 => by
    obtain ⟨h1, h2⟩ := stAt_cnt x l k
    have hb : ∀ a rows, begunN (stAt x l k).ras (stAt x l k).now k = some (a, rows) → cnt rows ≤ k ∧ rows.length = 128 := fun a rows h => by
      unfold begunN at h
      split at h
      · cases h; exact ⟨by rw [cnt_rep]; omega, List.length_replicate ..⟩
      · exact h1 a rows h
    rw [stAt]
    generalize l.getD k default = r
    unfold stF
    split
    · exact ⟨fun a rows h => (by cases h), fun f hf => by have := h2 f hf; omega⟩
    · rename_i a rows hs
      obtain ⟨c1, c2⟩ := hb a rows hs
      have c3 := tookN_cnt (x := (stAt x l k).ras) (r := r) c2
      have c4 := tookN_len (stAt x l k).ras r rows
      split
      · refine ⟨fun a rows h => (by cases h), fun f hf => ?_⟩
        rcases List.mem_append.1 hf with hf | hf
        · have := h2 f hf; omega
        · rw [List.mem_singleton.1 hf]; exact ⟨by show cnt (tookN _ _ _) ≤ _; omega, by show (tookN _ _ _).length = _; omega⟩
      · refine ⟨fun a' rows' h => ?_, fun f hf => by have := h2 f hf; omega⟩
        cases h
        exact ⟨by omega, by omega⟩
theorem rasN_ok {x : Ras} {r : Rc} (h : okR x = true) (hm : mayB r = true) : okR (rasN x r) = true := by
  obtain ⟨l, c, o, g⟩ := x
  have hk := of_okB h
  unfold mayB at hm
  simp only [Bool.and_eq_true, decide_eq_true_eq] at hm
  have hm3 := hm.1.2
  unfold rasN step
  rw [if_pos ⟨h, hm3⟩]
  dsimp only at hk ⊢
  split
  · refine okB_of ?_
    dsimp only
    split <;> omega
  · refine okB_of ?_
    dsimp only
    split
    · rename_i ht
      unfold tB wB at ht
      simp only [Bool.and_eq_true, decide_eq_true_eq] at ht
      omega
    · omega
theorem stAt_ok {x : Ras} {l : List Rc} (h : okR x = true) (hm : ∀ j, j < l.length → mayB (l.getD j default) = true) : ∀ k, k ≤ l.length → okR (stAt x l k).ras = true
  | 0, _ => h
  | k + 1, hk => by
    have h1 := rasN_ok (stAt_ok h hm k (by omega)) (hm k (by omega))
    rw [stAt]
    unfold stF
    split
    · exact h1
    · split
      · exact h1
      · exact h1
def ofP (x : Ras) (l : List Rc) : List Fm × Int := if okR x = false then ([], 50) else if chkL l = 0 then ((stAt x l l.length).out, 0) else ([], chkL l)
/-- What Of's answer is made of. -/
def OfR (x : Ras) (l : List Rc) (L : Hp) (v : Value) (L' : Hp) : Prop := ∃ vo so fs, v = .tuple #[vo, .int .i64 (ofP x l).2] ∧ L' = so :: (segs fs ++ L) ∧ RowF vo fs so ∧ FsOk fs ∧ fs.map (·.1) = (ofP x l).1
theorem OfR.none {x : Ras} {l : List Rc} {L : Hp} (h : (ofP x l).1 = []) : OfR x l L (.tuple #[.slice none 0 0, .int .i64 (ofP x l).2]) (none :: L) :=
  ⟨_, _, [], rfl, rfl, RowL.nil _ _ _, FsOk.nil, h.symm⟩
theorem get6 {a b c d e f : Slot} {S R : Hp} {k : Nat} (h : k < S.length) : (a :: b :: c :: d :: e :: f :: (S ++ R))[k + 6]? = some (S.getD k none) := by
  show (S ++ R)[k]? = _
  rw [List.getElem?_append_left h, getD_get (d := Option.none) h]
theorem less_begun {p q x r o : Slot} {N R : Hp} : Less (p :: q :: x :: r :: o :: (N ++ R)) (x :: r :: o :: (p :: q :: List.replicate 128 none ++ R)) := by
  have h1 : Less (p :: q :: x :: r :: o :: (N ++ R)) (p :: q :: x :: r :: o :: R) := Less.sublist (.cons_cons _ (.cons_cons _ (.cons_cons _ (.cons_cons _ (.cons_cons _ (List.sublist_append_right N R))))))
  refine (h1.trans (Less.nones 128 _)).trans (Less.perm ?_)
  have e1 : (x :: r :: o :: (p :: q :: List.replicate 128 none ++ R) : Hp) = [x, r, o] ++ ([p, q] ++ (List.replicate 128 none ++ R)) := by simp
  have e2 : (List.replicate 128 none ++ (p :: q :: x :: r :: o :: R) : Hp) = List.replicate 128 none ++ ([p, q] ++ ([x, r, o] ++ R)) := by simp
  rw [e1, e2]
  have p1 : (List.replicate 128 none ++ ([p, q] ++ ([x, r, o] ++ R)) : Hp).Perm ([p, q] ++ ([x, r, o] ++ R) ++ List.replicate 128 none) := List.perm_append_comm
  refine p1.trans ?_
  have p2 : ([p, q] ++ ([x, r, o] ++ R) : Hp).Perm ([x, r, o] ++ ([p, q] ++ R)) := by
    rw [← List.append_assoc, ← List.append_assoc]
    exact List.Perm.append_right _ List.perm_append_comm
  refine (p2.append_right _).trans ?_
  rw [List.append_assoc, List.append_assoc]
  refine List.Perm.append_left _ (List.Perm.append_left _ ?_)
  exact List.perm_append_comm
theorem drop_mid {a b c : Slot} {R : Hp} : Less (a :: b :: c :: R) (a :: b :: R) := Less.sublist (.cons_cons _ (.cons_cons _ (.cons _ (List.Sublist.refl _))))
end Go.Proofs.YtpakphgeichopaaDoor
set_option linter.unusedVariables false
set_option linter.unusedSimpArgs false
/-! A scope of labels to which nothing jumps. -/
namespace Go.SX
open Go.RowKit
def noGo (Q : Exit → Env → Hp → Prop) : Exit → Env → Hp → Prop
  | .goto _, _, _ => False
  | e, T, L => Q e T L
theorem noGo_normal {Q : Exit → Env → Hp → Prop} : noGo Q .normal = Q .normal := rfl
theorem noGo_ret {Q : Exit → Env → Hp → Prop} : noGo Q .ret = Q .ret := rfl
theorem noGo_exit {Q : Exit → Env → Hp → Prop} (id : Nat) : noGo Q (.exit id) = Q (.exit id) := rfl
theorem SX.scope {Γ : Ctx} {n : Nat} {c : Code} {Q : Exit → Env → Hp → Prop} {T : Env} {L : Hp} (h : SX Γ n c (noGo Q) T L) : SX Γ n (.scope c) Q T L := fun a w hf hi => by
  refine wp_scope_straight (Code.wp_mono ?_ (h a w hf hi))
  rintro e a' w' ⟨T', L', h1, h2, h3⟩
  cases e <;> first | exact h3.elim | exact ⟨T', L', h1, h2, h3⟩
end Go.SX
set_option linter.unusedVariables false
set_option linter.unusedSimpArgs false
namespace Go.Proofs.YtpakphgeichopaaDoor
open Go.RowKit Go.SX
open Go.SX renaming ia_someH → Φa

theorem less_ins {a : Slot} {L : Hp} : Less (a :: L) (a :: none :: L) := (Less.none _).trans (Less.perm (List.Perm.swap _ _ _))
theorem less_fin {a b e c s gp : Slot} {fs : List Ff} {p : Ff} {L : Hp} : Less (a :: b :: e :: c :: s :: gp :: (p.2.seg ++ (segs fs ++ L))) (c :: s :: (nowH none ++ (segs (fs ++ [p]) ++ L))) := by
  rw [segs_app, List.append_assoc]
  exact Less.drops (Less.drops (Less.drops drop_mid))
theorem lessG24 {a x b c g : Slot} {d : Fd} {R : Hp} : Less (a :: x :: b :: c :: g :: (d.seg ++ R)) [x, g, some (d.g, .cells d.vals.toArray 50 (0, 0))] :=
  Less.sublist (.cons _ (.cons_cons _ (.cons _ (.cons _ (.cons_cons _ (.cons_cons _ (List.nil_sublist _)))))))
theorem seg_set {d : Fd} {R : Hp} {k : Nat} {s : Slot} (h : k < d.ss.length) : (d.seg ++ R).set (k + 1) s = (Fd.mk d.g d.vals (d.ss.set k s)).seg ++ R := by
  show some _ :: (d.ss ++ R).set k s = _
  rw [List.set_append_left _ _ h]
  rfl
theorem less24 {a b c e s g s' : Slot} {d : Fd} {R : Hp} {k : Nat} {V : List Value} (h : k < d.ss.length) : Less (a :: b :: c :: e :: s :: g :: ((d.seg ++ R).set (k + 1) s').set 0 (some (d.g, .cells V.toArray 50 (0, 0)))) (b :: c :: e :: s :: g :: ((Fd.mk d.g V (d.ss.set k s')).seg ++ R)) := by
  rw [seg_set h]
  exact Less.drop _ _
theorem less_end {a s : Slot} {M R : Hp} : Less (a :: s :: (M ++ R)) (s :: R) := Less.drops (Less.sublist (.cons_cons _ (List.sublist_append_right M R)))
theorem begunN_cnt {x : Ras} {w : Option (Int × List (List Int))} {k : Int} {m : Nat} (h : ∀ a rows, w = some (a, rows) → cnt rows ≤ m ∧ rows.length = 128) {a : Int} {rows : List (List Int)} (hb : begunN x w k = some (a, rows)) : cnt rows ≤ m ∧ rows.length = 128 := by
  unfold begunN at hb
  split at hb
  · cases hb; exact ⟨by rw [cnt_rep]; omega, List.length_replicate ..⟩
  · exact h a rows hb
theorem stAt_out (x : Ras) (l : List Rc) : ∀ k, (stAt x l k).out.length ≤ k
  | 0 => Nat.le_refl _
  | k + 1 => by
    have h := stAt_out x l k
    rw [stAt]
    unfold stF
    split
    · show (stAt x l k).out.length ≤ _; omega
    · split
      · rw [List.length_append]; simp only [List.length_cons, List.length_nil]; omega
      · show (stAt x l k).out.length ≤ _; omega
theorem ofP_no {x : Ras} {l : List Rc} (h : ¬ chk x.1 x.2.1 x.2.2.2 = 0) : ofP x l = ([], chk x.1 x.2.1 x.2.2.2) := by
  have ho : okR x = false := by
    cases ho : okR x with
    | false => rfl
    | true => exact absurd (show chk x.1 x.2.1 x.2.2.2 = 0 by unfold chk; rw [if_pos ho]) h
  unfold ofP chk
  rw [if_pos ho, if_neg (by show ¬ okR x = true; rw [ho]; exact Bool.false_ne_true)]
theorem ok_of {x : Ras} (h : chk x.1 x.2.1 x.2.2.2 = 0) : okR x = true := by rw [← chk_zero]; exact h
theorem ofP_bad {x : Ras} {l : List Rc} (h : okR x = true) (hl : ¬ chkL l = 0) : ofP x l = ([], chkL l) := by
  unfold ofP
  rw [if_neg (by rw [h]; exact Bool.noConfusion), if_neg hl]
theorem ofP_ok {x : Ras} {l : List Rc} (h : okR x = true) (hl : chkL l = 0) : ofP x l = ((stAt x l l.length).out, 0) := by
  unfold ofP
  rw [if_neg (by rw [h]; exact Bool.noConfusion), if_pos hl]
theorem stF_none {x : Ras} {w : Option (Int × List (List Int))} {o : List Fm} {k : Int} {r : Rc} (h : begunN x w k = none) : stF ⟨x, w, o⟩ k r = ⟨rasN x r, none, o⟩ := by
  unfold stF; rw [h]
theorem stF_go {x : Ras} {w : Option (Int × List (List Int))} {o : List Fm} {k a : Int} {r : Rc} {rows : List (List Int)} (h : begunN x w k = some (a, rows)) (hz : atZ (rasN x r) = false) : stF ⟨x, w, o⟩ k r = ⟨rasN x r, some (a, tookN x r rows), o⟩ := by
  unfold stF; rw [h]; simp only; rw [if_neg (by rw [hz]; exact Bool.false_ne_true)]
theorem stF_fin {x : Ras} {w : Option (Int × List (List Int))} {o : List Fm} {k a : Int} {r : Rc} {rows : List (List Int)} (h : begunN x w k = some (a, rows)) (hz : atZ (rasN x r) = true) : stF ⟨x, w, o⟩ k r = ⟨rasN x r, none, o ++ [⟨a, tookN x r rows, shortB (tookN x r rows)⟩]⟩ := by
  unfold stF; rw [h]; simp only; rw [if_pos hz]
theorem StepR_spec {Γ : Ctx} (hP : Γ.P = Tryd.prog) {L : Hp} {X : Ras} {r : Rc} {ad data : Int} {own pulse : Bool} (S : SH Γ) :
    SCall Γ 31 #[(.agg #[.int .i64 X.1, .int .i64 X.2.1, .bool X.2.2.1, .int .i64 X.2.2.2]), (.agg #[.int .u8 r.code, .int .u16 ad, .bool r.rd, .bool r.wr, .bool own, .int .u8 data, .int .u8 r.port, .bool pulse]), (.int .u8 r.md)] L (fun v L' => v = .agg #[.int .i64 (rasN X r).1, .int .i64 (rasN X r).2.1, .bool (rasN X r).2.2.1, .int .i64 (rasN X r).2.2.2] ∧ L' = L) := Step_spec hP S
theorem TakesR_spec {Γ : Ctx} (hP : Γ.P = Tryd.prog) {L : Hp} {X : Ras} {r : Rc} {ad data : Int} {own pulse : Bool} (S : SH Γ) :
    SCall Γ 30 #[(.agg #[.int .i64 X.1, .int .i64 X.2.1, .bool X.2.2.1, .int .i64 X.2.2.2]), (.agg #[.int .u8 r.code, .int .u16 ad, .bool r.rd, .bool r.wr, .bool own, .int .u8 data, .int .u8 r.port, .bool pulse])] L (fun v L' => v = .bool (takesN X r) ∧ L' = L) := Takes_spec hP S
theorem mayR_spec {Γ : Ctx} (hP : Γ.P = Tryd.prog) {L : Hp} {r : Rc} : SCall Γ 28 #[.agg #[.int .u8 r.code, .int .u16 r.ad, .int .u8 r.data, .bool r.rd, .bool r.wr, .int .u8 r.port, .bool r.q, .int .u8 r.md]] L (fun v L' => v = .bool (mayB r) ∧ L' = L) := may_spec (x := r) hP
set_option maxHeartbeats 1000000 in
set_option maxRecDepth 100000 in
theorem begun_spec {Γ : Ctx} (hP : Γ.P = Tryd.prog) {L : Hp} {k : Int} :
    SCall Γ 29 #[(.int .i64 k)] L (fun v L' => ∃ gp g, v = .pointer (some ⟨gp, 0, none⟩) ∧ L' = some (gp, .cells [.int .i64 k, .slice (some ⟨g, 0, none⟩) 128 128, .bool false].toArray 41 (0, 0)) :: some (g, .cells (List.replicate 128 (.slice none 0 0)).toArray 50 (0, 0)) :: L) := by
  refine SCall.enter (n := 7) (res1 2) (hP ▸ Tryd.func29) rfl rfl (by simp) (res1_ok rfl) ?_
  refine SX.seq_k fun K1 hK1 => ?_
  refine SX.region_d [some 2] rfl (fun ops hops => ?_)
  unfold Dsts at hops
  simp (maxSteps:=1000000)(dsimp:=false)(disch:=omega) only [go_sem, Φa, hP, hops]
  refine hK1 _ _ ?_
  try clear hK1 K1
  refine SX.seq_k fun K2 hK2 => ?_
  refine SX.region_d [some 3, some 4, some 5, some 6, some 2] rfl (fun ops hops => ?_)
  unfold Dsts at hops
  simp (maxSteps:=1000000)(dsimp:=false)(disch:=omega) only [go_sem, Φa, hP, hops]
  intro g1
  try with_reducible refine stI ?_
  try simp (maxSteps:=1000000)(dsimp:=false)(disch:=omega) only [go_sem, Φa, hP, hops]
  rw [zerosV_one]
  try with_reducible refine stI ?_
  try simp (maxSteps:=1000000)(dsimp:=false)(disch:=omega) only [go_sem, Φa, hP, hops]
  intro g2
  try with_reducible refine stI ?_
  try simp (maxSteps:=1000000)(dsimp:=false)(disch:=omega) only [go_sem, Φa, hP, hops]
  refine hK2 _ _ ?_
  try clear hK2 K2
  refine SX.ret ?_
  simp only [noGo_normal, noGo_ret, noGo_exit, andThen_normal, andThen_ret, andThen_exit, inBlk_normal, inBlk_ret, inBlk_exit, Nat.reduceEqDiff, if_true, if_false, ↓reduceIte, retQ_ret]
  try simp only [res0, res1, res2, res3, stK_e, go_sem, Φa, hP]
  exact ⟨_, _, Less.refl _, rfl, _, _, rfl, rfl⟩
set_option maxHeartbeats 1000000 in
set_option maxRecDepth 100000 in
theorem Of_spec {Γ : Ctx} (hP : Γ.P = Tryd.prog) {L : Hp} {x : Ras} {v : Value} {l : List Rc} (hl : SlC (Cell Γ L) v l) (hlm : l.length ≤ 9000000000000000000) (S : SH Γ) :
    SCall Γ 12 #[(.agg #[.int .i64 x.1, .int .i64 x.2.1, .bool x.2.2.1, .int .i64 x.2.2.2]), v] L (OfR x l L) := by
  obtain ⟨A, c, rfl, hc⟩ := Sl.shape hl
  obtain ⟨a1, e1, _, hA⟩ := Sl.at1 hl
  refine SCall.enter (n := 115) (res2 4 5) (hP ▸ Tryd.func12) rfl rfl (by simp) (res2_ok rfl) ?_
  refine SX.seq_k fun K1 hK1 => ?_
  refine SX.region_d [some 2, some 4, some 5] rfl (fun ops hops => ?_)
  unfold Dsts at hops
  simp (maxSteps:=1000000)(dsimp:=false)(disch:=omega) only [go_sem, Φa, hP, hops]
  intro bR
  try with_reducible refine stI ?_
  try simp (maxSteps:=1000000)(dsimp:=false)(disch:=omega) only [go_sem, Φa, hP, hops]
  refine hK1 _ _ ?_
  try clear hK1 K1
  refine SX.scope ?_
  refine SX.seq_k fun K2 hK2 => ?_
  refine SX.seq_k fun K3 hK3 => ?_
  refine SX.region_d [some 16, some 17, some 6] rfl (fun ops hops => ?_)
  unfold Dsts at hops
  simp (maxSteps:=1000000)(dsimp:=false)(disch:=omega) only [go_sem, Φa, hP, hops]
  refine ⟨_, Cell.at 0 rfl rfl, _, Cell.at 0 rfl rfl, _, Cell.at 0 rfl rfl, _, Cell.at 0 rfl rfl, ?_⟩
  try with_reducible refine stI ?_
  try simp (maxSteps:=1000000)(dsimp:=false)(disch:=omega) only [go_sem, Φa, hP, hops]
  refine SCall.mono (Check_spec hP S) ?_
  rintro v_ L_ ⟨hv_, hL_⟩
  rw [hv_, hL_]
  clear hv_ hL_ v_ L_
  try with_reducible refine stI ?_
  try simp (maxSteps:=1000000)(dsimp:=false)(disch:=omega) only [go_sem, Φa, hP, hops]
  refine hK3 _ _ ?_
  try clear hK3 K3
  refine SX.seq_k fun K4 hK4 => ?_
  refine SX.region_d [some 18, some 19] rfl (fun ops hops => ?_)
  unfold Dsts at hops
  simp (maxSteps:=1000000)(dsimp:=false)(disch:=omega) only [go_sem, Φa, hP, hops]
  repeat' ((first | refine And.intro (by omega) ?_ | fail); try (with_reducible refine stI ?_); try simp (maxSteps:=1000000)(dsimp:=false)(disch:=omega) only [go_sem, Φa, hP, hops])
  refine hK4 _ _ ?_
  try clear hK4 K4
  refine SX.cond_k fun X5 Y5 hX5 hY5 => ?_
  simp (maxSteps:=1000000)(dsimp:=false)(disch:=omega) only [go_sem, Φa, hP, condVC]
  refine ⟨fun hc19 => hX5 ?_, fun hc19 => hY5 ?_⟩
  · clear hX5 hY5 X5 Y5
    refine SX.seq_k fun K6 hK6 => ?_
    refine SX.region_d [some 20, some 4, some 5] rfl (fun ops hops => ?_)
    unfold Dsts at hops
    simp (maxSteps:=1000000)(dsimp:=false)(disch:=omega) only [go_sem, Φa, hP, hops]
    refine hK6 _ _ ?_
    try clear hK6 K6
    refine SX.ret ?_
    simp only [noGo_normal, noGo_ret, noGo_exit, andThen_normal, andThen_ret, andThen_exit, inBlk_normal, inBlk_ret, inBlk_exit, Nat.reduceEqDiff, if_true, if_false, ↓reduceIte, retQ_ret]
    try simp only [res0, res1, res2, res3, stK_e, go_sem, Φa, hP]
    refine ⟨_, _, (Less.drop _ _).trans (Less.none _), rfl, ?_⟩
    rw [← show (ofP x l).2 = chk x.1 x.2.1 x.2.2.2 by rw [ofP_no hc19]]
    exact OfR.none (by rw [ofP_no hc19])
  · clear hX5 hY5 X5 Y5
    refine SX.skip ?_
    try simp only [noGo_normal, noGo_ret, noGo_exit, andThen_normal, andThen_ret, andThen_exit, inBlk_normal, inBlk_ret, inBlk_exit, Nat.reduceEqDiff, if_true, if_false, ↓reduceIte]
    refine hK2 _ _ ?_
    try clear hK2 K2
    refine SX.seq_k fun K7 hK7 => ?_
    refine SX.seq_k fun K8 hK8 => ?_
    have hok : okR x = true := ok_of (by simpa using hc19)
    refine SX.region_d [some 21, some 22, some 23] rfl (fun ops hops => ?_)
    unfold Dsts at hops
    simp (maxSteps:=1000000)(dsimp:=false)(disch:=omega) only [go_sem, Φa, hP, hops]
    repeat' ((first | refine And.intro (by omega) ?_ | fail); try (with_reducible refine stI ?_); try simp (maxSteps:=1000000)(dsimp:=false)(disch:=omega) only [go_sem, Φa, hP, hops])
    refine hK8 _ _ ?_
    try clear hK8 K8
    refine SX.live [1, 2, 23] (fun T1 hT1 => ?_)
    simp only [forall_mem_cons', forall_mem_nil', go_sem, Φa, hP] at hT1
    obtain ⟨h1_1, h1_2, h1_23⟩ := hT1
    refine SX.cond_k fun X9 Y9 hX9 hY9 => ?_
    simp (maxSteps:=1000000)(dsimp:=false)(disch:=omega) only [go_sem, Φa, hP, h1_1, h1_2, h1_23, condVC]
    refine ⟨fun hc23 => hX9 ?_, fun hc23 => hY9 ?_⟩
    · clear hX9 hY9 X9 Y9
      refine SX.seq_k fun K10 hK10 => ?_
      refine SX.region_d [some 4, some 5] rfl (fun ops hops => ?_)
      unfold Dsts at hops
      simp (maxSteps:=1000000)(dsimp:=false)(disch:=omega) only [go_sem, Φa, hP, h1_1, h1_2, h1_23, hops]
      refine hK10 _ _ ?_
      try clear hK10 K10
      refine SX.ret ?_
      simp only [noGo_normal, noGo_ret, noGo_exit, andThen_normal, andThen_ret, andThen_exit, inBlk_normal, inBlk_ret, inBlk_exit, Nat.reduceEqDiff, if_true, if_false, ↓reduceIte, retQ_ret]
      try simp only [res0, res1, res2, res3, stK_e, go_sem, Φa, hP, h1_1, h1_2, h1_23]
      refine ⟨_, _, (Less.drop _ _).trans (Less.none _), rfl, ?_⟩
      have hb := ofP_bad (l := l) hok (by rw [chkL_long (by omega)]; decide)
      rw [chkL_long (by omega)] at hb
      rw [← show (ofP x l).2 = 2 by rw [hb]]
      exact OfR.none (by rw [hb])
    · clear hX9 hY9 X9 Y9
      refine SX.skip ?_
      try simp only [noGo_normal, noGo_ret, noGo_exit, andThen_normal, andThen_ret, andThen_exit, inBlk_normal, inBlk_ret, inBlk_exit, Nat.reduceEqDiff, if_true, if_false, ↓reduceIte]
      refine hK7 _ _ ?_
      try clear hK7 K7
      refine SX.seq_k fun K11 hK11 => ?_
      refine SX.seq_k fun K12 hK12 => ?_
      refine SX.region_d [some 24, some 25, some 26] rfl (fun ops hops => ?_)
      unfold Dsts at hops
      simp (maxSteps:=1000000)(dsimp:=false)(disch:=omega) only [go_sem, Φa, hP, h1_1, h1_2, h1_23, hops]
      repeat' ((first | refine And.intro (by omega) ?_ | fail); try (with_reducible refine stI ?_); try simp (maxSteps:=1000000)(dsimp:=false)(disch:=omega) only [go_sem, Φa, hP, h1_1, h1_2, h1_23, hops])
      refine hK12 _ _ ?_
      try clear hK12 K12
      refine SX.block ?_
      refine SX.live [1, 2, 24, 25, 26] (fun T2 hT2 => ?_)
      simp only [forall_mem_cons', forall_mem_nil', go_sem, Φa, hP, h1_1, h1_2, h1_23] at hT2
      obtain ⟨h2_1, h2_2, h2_24, h2_25, h2_26⟩ := hT2
      clear h1_1 h1_2 h1_23 T1
      refine SX.loop_k (fun (ss : (Nat)) T L' => (fun (k : Nat) => T 26 = .int .i64 (k : Int) ∧ T 1 = T2 1 ∧ T 2 = T2 2 ∧ T 24 = T2 24 ∧ T 25 = T2 25 ∧ L' = some (bR, .cells [.int .i64 x.1, .int .i64 x.2.1, .bool x.2.2.1, .int .i64 x.2.2.2].toArray 24 (0, 0)) :: L ∧ (k ≤ l.length ∧ ∀ j, j < k → mayB (l.getD j default) = true)) (ss)) (fun (ss : (Nat)) => (fun (k : Nat) => l.length - k) (ss)) 0 ?_ ?_
      · try dsimp only
        refine ⟨?_, ?_, ?_, ?_, ?_, ?_, ?_⟩
        · first | exact h2_26 | (rw [h2_26]; rfl) | (rw [h2_26]; simp; done)
        · rfl
        · rfl
        · rfl
        · rfl
        · rfl
        · exact ⟨Nat.zero_le _, fun j hj => absurd hj (Nat.not_lt_zero _)⟩
      · intro k T3 L3 hI K13 hK13
        try dsimp only at hI hK13
        simp only [h2_1, h2_2, h2_24, h2_25] at hI hK13
        obtain ⟨h3_26, h3_1, h3_2, h3_24, h3_25, hL3, ⟨hk, hin⟩⟩ := hI
        replace hL3 := hL3.symm
        subst hL3
        clear h2_1 h2_2 h2_24 h2_25 h2_26 T2
        refine SX.seq_k fun K14 hK14 => ?_
        refine SX.region_d [some 27] rfl (fun ops hops => ?_)
        unfold Dsts at hops
        simp (maxSteps:=1000000)(dsimp:=false)(disch:=omega) only [go_sem, Φa, hP, h3_26, h3_1, h3_2, h3_24, h3_25, hops]
        repeat' ((first | refine And.intro (by omega) ?_ | fail); try (with_reducible refine stI ?_); try simp (maxSteps:=1000000)(dsimp:=false)(disch:=omega) only [go_sem, Φa, hP, h3_26, h3_1, h3_2, h3_24, h3_25, hops])
        refine hK14 _ _ ?_
        try clear hK14 K14
        refine SX.seq_k fun K15 hK15 => ?_
        refine SX.cond_k fun X16 Y16 hX16 hY16 => ?_
        simp (maxSteps:=1000000)(dsimp:=false)(disch:=omega) only [go_sem, Φa, hP, h3_26, h3_1, h3_2, h3_24, h3_25, condVC]
        refine ⟨fun hc27 => hX16 ?_, fun hc27 => hY16 ?_⟩
        · clear hX16 hY16 X16 Y16
          refine SX.skip ?_
          try simp only [noGo_normal, noGo_ret, noGo_exit, andThen_normal, andThen_ret, andThen_exit, inBlk_normal, inBlk_ret, inBlk_exit, Nat.reduceEqDiff, if_true, if_false, ↓reduceIte]
          refine hK15 _ _ ?_
          try clear hK15 K15
          refine SX.seq_k fun K17 hK17 => ?_
          refine SX.block ?_
          refine SX.seq_k fun K18 hK18 => ?_
          have hkl : k < l.length := by omega
          have hck := hA k _ (getD_get (d := default) hkl)
          refine SX.region_d [some 28, some 29, some 8, none] rfl (fun ops hops => ?_)
          unfold Dsts at hops
          simp (maxSteps:=1000000)(dsimp:=false)(disch:=omega) only [go_sem, Φa, hP, h3_26, h3_1, h3_2, h3_24, h3_25, hops, ia_at e1]
          refine ⟨_, Cell.cons _ (hck 0 _ rfl), _, Cell.cons _ (hck 1 _ rfl), _, Cell.cons _ (hck 2 _ rfl), _, Cell.cons _ (hck 3 _ rfl), _, Cell.cons _ (hck 4 _ rfl), _, Cell.cons _ (hck 5 _ rfl), _, Cell.cons _ (hck 6 _ rfl), _, Cell.cons _ (hck 7 _ rfl), ?_⟩
          try with_reducible refine stI ?_
          try simp (maxSteps:=1000000)(dsimp:=false)(disch:=omega) only [go_sem, Φa, hP, h3_26, h3_1, h3_2, h3_24, h3_25, hops, ia_at e1]
          intro g8
          try with_reducible refine stI ?_
          try simp (maxSteps:=1000000)(dsimp:=false)(disch:=omega) only [go_sem, Φa, hP, h3_26, h3_1, h3_2, h3_24, h3_25, hops, ia_at e1]
          refine ⟨0, _, _, _, rfl, by decide, .inr (by decide), ?_⟩
          try with_reducible refine stI ?_
          try simp (maxSteps:=1000000)(dsimp:=false)(disch:=omega) only [go_sem, Φa, hP, h3_26, h3_1, h3_2, h3_24, h3_25, hops, ia_at e1]
          refine hK18 _ _ ?_
          try clear hK18 K18
          refine SX.seq_k fun K19 hK19 => ?_
          refine SX.region_d [some 30, some 31, some 32] rfl (fun ops hops => ?_)
          unfold Dsts at hops
          simp (maxSteps:=1000000)(dsimp:=false)(disch:=omega) only [go_sem, Φa, hP, h3_26, h3_1, h3_2, h3_24, h3_25, hops]
          refine ⟨_, Cell.at 0 rfl rfl, _, Cell.at 0 rfl rfl, _, Cell.at 0 rfl rfl, _, Cell.at 0 rfl rfl, _, Cell.at 0 rfl rfl, _, Cell.at 0 rfl rfl, _, Cell.at 0 rfl rfl, _, Cell.at 0 rfl rfl, ?_⟩
          try with_reducible refine stI ?_
          try simp (maxSteps:=1000000)(dsimp:=false)(disch:=omega) only [go_sem, Φa, hP, h3_26, h3_1, h3_2, h3_24, h3_25, hops]
          refine SCall.mono (mayR_spec hP (r := l.getD k default)) ?_
          rintro v_ L_ ⟨hv_, hL_⟩
          rw [hv_, hL_]
          clear hv_ hL_ v_ L_
          try with_reducible refine stI ?_
          try simp (maxSteps:=1000000)(dsimp:=false)(disch:=omega) only [go_sem, Φa, hP, h3_26, h3_1, h3_2, h3_24, h3_25, hops]
          refine hK19 _ _ ?_
          try clear hK19 K19
          refine SX.cond_k fun X20 Y20 hX20 hY20 => ?_
          simp (maxSteps:=1000000)(dsimp:=false)(disch:=omega) only [go_sem, Φa, hP, h3_26, h3_1, h3_2, h3_24, h3_25, condVC]
          refine ⟨fun hc32 => hX20 ?_, fun hc32 => hY20 ?_⟩
          · clear hX20 hY20 X20 Y20
            refine SX.seq_k fun K21 hK21 => ?_
            refine SX.region_d [some 4, some 5] rfl (fun ops hops => ?_)
            unfold Dsts at hops
            simp (maxSteps:=1000000)(dsimp:=false)(disch:=omega) only [go_sem, Φa, hP, h3_26, h3_1, h3_2, h3_24, h3_25, hops]
            refine hK21 _ _ ?_
            try clear hK21 K21
            refine SX.ret ?_
            simp only [noGo_normal, noGo_ret, noGo_exit, andThen_normal, andThen_ret, andThen_exit, inBlk_normal, inBlk_ret, inBlk_exit, Nat.reduceEqDiff, if_true, if_false, ↓reduceIte, retQ_ret]
            try simp only [res0, res1, res2, res3, stK_e, go_sem, Φa, hP, h3_26, h3_1, h3_2, h3_24, h3_25]
            refine ⟨_, _, (Less.drops (Less.drop _ _)).trans (Less.none _), rfl, ?_⟩
            have hb := ofP_bad (l := l) hok (by rw [chkL_bad (by omega) hkl (by simpa using hc32)]; decide)
            rw [chkL_bad (by omega) hkl (by simpa using hc32)] at hb
            rw [← show (ofP x l).2 = 1 by rw [hb]]
            exact OfR.none (by rw [hb])
          · clear hX20 hY20 X20 Y20
            refine SX.skip ?_
            try simp only [noGo_normal, noGo_ret, noGo_exit, andThen_normal, andThen_ret, andThen_exit, inBlk_normal, inBlk_ret, inBlk_exit, Nat.reduceEqDiff, if_true, if_false, ↓reduceIte]
            refine hK17 _ _ ?_
            try clear hK17 K17
            refine SX.region_d [some 33, some 26] rfl (fun ops hops => ?_)
            unfold Dsts at hops
            simp (maxSteps:=1000000)(dsimp:=false)(disch:=omega) only [go_sem, Φa, hP, h3_26, h3_1, h3_2, h3_24, h3_25, hops]
            repeat' ((first | refine And.intro (by omega) ?_ | fail); try (with_reducible refine stI ?_); try simp (maxSteps:=1000000)(dsimp:=false)(disch:=omega) only [go_sem, Φa, hP, h3_26, h3_1, h3_2, h3_24, h3_25, hops])
            refine hK13 (k + 1) _ (some (bR, .cells [.int .i64 x.1, .int .i64 x.2.1, .bool x.2.2.1, .int .i64 x.2.2.2].toArray 24 (0, 0)) :: L) _ (by first | exact Less.refl _ | exact Less.drop _ _ | exact Less.drops (Less.drop _ _) | exact Less.drops (Less.drops (Less.drop _ _)) | exact Less.drops (Less.drops (Less.drops (Less.drop _ _))) | exact Less.drops (Less.drops (Less.drops (Less.drops (Less.drop _ _))))) ?_ ?_
            · try dsimp only
              refine ⟨?_, ?_, ?_, ?_, ?_, ?_, ?_⟩
              · simp (maxSteps:=1000000)(dsimp:=false)(disch:=omega) only [go_sem, Φa, hP, h3_26, h3_1, h3_2, h3_24, h3_25]
                first | done | rfl | skip
              · simp (maxSteps:=1000000)(dsimp:=false)(disch:=omega) only [go_sem, Φa, hP, h3_26, h3_1, h3_2, h3_24, h3_25]
              · simp (maxSteps:=1000000)(dsimp:=false)(disch:=omega) only [go_sem, Φa, hP, h3_26, h3_1, h3_2, h3_24, h3_25]
              · simp (maxSteps:=1000000)(dsimp:=false)(disch:=omega) only [go_sem, Φa, hP, h3_26, h3_1, h3_2, h3_24, h3_25]
              · simp (maxSteps:=1000000)(dsimp:=false)(disch:=omega) only [go_sem, Φa, hP, h3_26, h3_1, h3_2, h3_24, h3_25]
              · rfl
              · refine ⟨by omega, fun j hj => ?_⟩
                rcases Nat.lt_succ_iff_lt_or_eq.1 hj with h | rfl
                · exact hin j h
                · simpa using hc32
            · (try dsimp only); omega
        · clear hX16 hY16 X16 Y16
          refine SX.exit ?_
          try simp only [noGo_normal, noGo_ret, noGo_exit, andThen_normal, andThen_ret, andThen_exit, inBlk_normal, inBlk_ret, inBlk_exit, Nat.reduceEqDiff, if_true, if_false, ↓reduceIte]
          refine hK11 _ _ ?_
          try clear hK11 K11
          refine SX.seq_k fun K22 hK22 => ?_
          have hgood : chkL l = 0 := chkL_good (by omega) (fun j hj => hin j (by omega))
          obtain ⟨hll, hmay⟩ := chkL_zero hgood
          clear hin
          refine SX.less less_ins ?_
          refine SX.region_d [some 9] rfl (fun ops hops => ?_)
          unfold Dsts at hops
          simp (maxSteps:=1000000)(dsimp:=false)(disch:=omega) only [go_sem, Φa, hP, h3_26, h3_1, h3_2, h3_24, h3_25, hops]
          refine hK22 _ _ ?_
          try clear hK22 K22
          refine SX.seq_k fun K23 hK23 => ?_
          refine SX.region_d [some 10] rfl (fun ops hops => ?_)
          unfold Dsts at hops
          simp (maxSteps:=1000000)(dsimp:=false)(disch:=omega) only [go_sem, Φa, hP, h3_26, h3_1, h3_2, h3_24, h3_25, hops]
          refine hK23 _ _ ?_
          try clear hK23 K23
          refine SX.seq_k fun K24 hK24 => ?_
          refine SX.label ?_
          try simp only [noGo_normal, noGo_ret, noGo_exit, andThen_normal, andThen_ret, andThen_exit, inBlk_normal, inBlk_ret, inBlk_exit, Nat.reduceEqDiff, if_true, if_false, ↓reduceIte]
          refine hK24 _ _ ?_
          try clear hK24 K24
          refine SX.seq_k fun K25 hK25 => ?_
          refine SX.seq_k fun K26 hK26 => ?_
          refine SX.region_d [some 34, some 35, some 36] rfl (fun ops hops => ?_)
          unfold Dsts at hops
          simp (maxSteps:=1000000)(dsimp:=false)(disch:=omega) only [go_sem, Φa, hP, h3_26, h3_1, h3_2, h3_24, h3_25, hops]
          repeat' ((first | refine And.intro (by omega) ?_ | fail); try (with_reducible refine stI ?_); try simp (maxSteps:=1000000)(dsimp:=false)(disch:=omega) only [go_sem, Φa, hP, h3_26, h3_1, h3_2, h3_24, h3_25, hops])
          refine hK26 _ _ ?_
          try clear hK26 K26
          refine SX.block ?_
          refine SX.live [2, 9, 10, 34, 35, 36] (fun T4 hT4 => ?_)
          simp only [forall_mem_cons', forall_mem_nil', go_sem, Φa, hP, h3_26, h3_1, h3_2, h3_24, h3_25] at hT4
          obtain ⟨h4_2, h4_9, h4_10, h4_34, h4_35, h4_36⟩ := hT4
          clear h3_26 h3_1 h3_2 h3_24 h3_25 T3
          refine SX.loop_k (fun (ss : (Nat) × (Ras) × (Nw) × (Value) × (Slot) × (List Ff)) T L' => (fun (k : Nat) (X : Ras) (nw : Nw) (vo : Value) (so : Slot) (fs : List Ff) => T 9 = vo ∧ T 10 = nowP nw ∧ T 36 = .int .i64 (k : Int) ∧ T 2 = T4 2 ∧ T 34 = T4 34 ∧ T 35 = T4 35 ∧ L' = some (bR, .cells [.int .i64 X.1, .int .i64 X.2.1, .bool X.2.2.1, .int .i64 X.2.2.2].toArray 24 (0, 0)) :: so :: (nowH nw ++ (segs fs ++ L)) ∧ (k ≤ l.length ∧ RowF vo fs so ∧ FsOk fs ∧ NwOk nw ∧ stAt x l k = ⟨X, nowS nw, fs.map (·.1)⟩)) (ss.1) (ss.2.1) (ss.2.2.1) (ss.2.2.2.1) (ss.2.2.2.2.1) (ss.2.2.2.2.2)) (fun (ss : (Nat) × (Ras) × (Nw) × (Value) × (Slot) × (List Ff)) => (fun (k : Nat) (X : Ras) (nw : Nw) (vo : Value) (so : Slot) (fs : List Ff) => l.length - k) (ss.1) (ss.2.1) (ss.2.2.1) (ss.2.2.2.1) (ss.2.2.2.2.1) (ss.2.2.2.2.2)) (0, x, none, .slice none 0 0, none, []) ?_ ?_
          · try dsimp only
            refine ⟨?_, ?_, ?_, ?_, ?_, ?_, ?_, ?_⟩
            · first | exact h4_9 | (rw [h4_9]; rfl) | (rw [h4_9]; simp; done)
            · first | exact h4_10 | (rw [h4_10]; rfl) | (rw [h4_10]; simp; done)
            · first | exact h4_36 | (rw [h4_36]; rfl) | (rw [h4_36]; simp; done)
            · rfl
            · rfl
            · rfl
            · rfl
            · exact ⟨Nat.zero_le _, RowL.nil _ _ _, FsOk.nil, fun q hq => (by cases hq), rfl⟩
          · intro ss T5 L5 hI K27 hK27
            obtain ⟨k, X, nw, vo, so, fs⟩ := ss
            try dsimp only at hI hK27
            simp only [h4_2, h4_34, h4_35] at hI hK27
            obtain ⟨h5_9, h5_10, h5_36, h5_2, h5_34, h5_35, hL5, ⟨hk, hrow, hfs, hnw, hst⟩⟩ := hI
            replace hL5 := hL5.symm
            subst hL5
            clear h4_2 h4_9 h4_10 h4_34 h4_35 h4_36 T4
            refine SX.seq_k fun K28 hK28 => ?_
            refine SX.region_d [some 37] rfl (fun ops hops => ?_)
            unfold Dsts at hops
            simp (maxSteps:=1000000)(dsimp:=false)(disch:=omega) only [go_sem, Φa, hP, h5_9, h5_10, h5_36, h5_2, h5_34, h5_35, hops]
            repeat' ((first | refine And.intro (by omega) ?_ | fail); try (with_reducible refine stI ?_); try simp (maxSteps:=1000000)(dsimp:=false)(disch:=omega) only [go_sem, Φa, hP, h5_9, h5_10, h5_36, h5_2, h5_34, h5_35, hops])
            refine hK28 _ _ ?_
            try clear hK28 K28
            refine SX.seq_k fun K29 hK29 => ?_
            refine SX.cond_k fun X30 Y30 hX30 hY30 => ?_
            simp (maxSteps:=1000000)(dsimp:=false)(disch:=omega) only [go_sem, Φa, hP, h5_9, h5_10, h5_36, h5_2, h5_34, h5_35, condVC]
            refine ⟨fun hc37 => hX30 ?_, fun hc37 => hY30 ?_⟩
            · clear hX30 hY30 X30 Y30
              refine SX.skip ?_
              try simp only [noGo_normal, noGo_ret, noGo_exit, andThen_normal, andThen_ret, andThen_exit, inBlk_normal, inBlk_ret, inBlk_exit, Nat.reduceEqDiff, if_true, if_false, ↓reduceIte]
              refine hK29 _ _ ?_
              try clear hK29 K29
              refine SX.seq_k fun K31 hK31 => ?_
              refine SX.block ?_
              refine SX.seq_k fun K32 hK32 => ?_
              have hkl : k < l.length := by omega
              have hck := hA k _ (getD_get (d := default) hkl)
              have hstep : stAt x l (k + 1) = stF ⟨X, nowS nw, fs.map (·.1)⟩ k (l.getD k default) := by rw [stAt, hst]
              have hXo : okR X = true := by have := stAt_ok hok hmay k hk; rw [hst] at this; exact this
              have hX := of_okB hXo
              have hcn := (stAt_cnt x l k).1
              rw [hst] at hcn
              have hfl : fs.length ≤ k := by have := stAt_out x l k; rw [hst] at this; simpa using this
              generalize l.getD k default = r at hck hstep
              refine SX.region_d [some 38, some 39, some 40, some 12, some 11, none] rfl (fun ops hops => ?_)
              unfold Dsts at hops
              simp (maxSteps:=1000000)(dsimp:=false)(disch:=omega) only [go_sem, Φa, hP, h5_9, h5_10, h5_36, h5_2, h5_34, h5_35, hops, ia_at e1]
              refine ⟨_, Cell.cons _ (Cell.cons _ (Cell.app _ (Cell.app _ (hck 0 _ rfl)))), _, Cell.cons _ (Cell.cons _ (Cell.app _ (Cell.app _ (hck 1 _ rfl)))), _, Cell.cons _ (Cell.cons _ (Cell.app _ (Cell.app _ (hck 2 _ rfl)))), _, Cell.cons _ (Cell.cons _ (Cell.app _ (Cell.app _ (hck 3 _ rfl)))), _, Cell.cons _ (Cell.cons _ (Cell.app _ (Cell.app _ (hck 4 _ rfl)))), _, Cell.cons _ (Cell.cons _ (Cell.app _ (Cell.app _ (hck 5 _ rfl)))), _, Cell.cons _ (Cell.cons _ (Cell.app _ (Cell.app _ (hck 6 _ rfl)))), _, Cell.cons _ (Cell.cons _ (Cell.app _ (Cell.app _ (hck 7 _ rfl)))), ?_⟩
              try with_reducible refine stI ?_
              try simp (maxSteps:=1000000)(dsimp:=false)(disch:=omega) only [go_sem, Φa, hP, h5_9, h5_10, h5_36, h5_2, h5_34, h5_35, hops, ia_at e1]
              intro g16
              try with_reducible refine stI ?_
              try simp (maxSteps:=1000000)(dsimp:=false)(disch:=omega) only [go_sem, Φa, hP, h5_9, h5_10, h5_36, h5_2, h5_34, h5_35, hops, ia_at e1]
              refine ⟨0, _, _, _, rfl, by decide, .inr (by decide), ?_⟩
              try with_reducible refine stI ?_
              try simp (maxSteps:=1000000)(dsimp:=false)(disch:=omega) only [go_sem, Φa, hP, h5_9, h5_10, h5_36, h5_2, h5_34, h5_35, hops, ia_at e1]
              refine hK32 _ _ ?_
              try clear hK32 K32
              refine SX.live [2, 9, 10, 11, 12, 34, 35, 36] (fun T6 hT6 => ?_)
              simp only [forall_mem_cons', forall_mem_nil', go_sem, Φa, hP, h5_9, h5_10, h5_36, h5_2, h5_34, h5_35] at hT6
              obtain ⟨h6_2, h6_9, h6_10, h6_11, h6_12, h6_34, h6_35, h6_36⟩ := hT6
              clear h5_9 h5_10 h5_36 h5_2 h5_34 h5_35 T5
              refine SX.join (fun (ss : (Nw)) T L' => (fun (nw1 : Nw) => T 10 = nowP nw1 ∧ T 2 = T6 2 ∧ T 9 = T6 9 ∧ T 12 = T6 12 ∧ T 34 = T6 34 ∧ T 35 = T6 35 ∧ T 36 = T6 36 ∧ L' = some (g16, .cells [.int .u8 r.code, .int .u16 r.ad, .int .u8 r.data, .bool r.rd, .bool r.wr, .int .u8 r.port, .bool r.q, .int .u8 r.md].toArray 29 (0, 0)) :: some (bR, .cells [.int .i64 X.1, .int .i64 X.2.1, .bool X.2.2.1, .int .i64 X.2.2.2].toArray 24 (0, 0)) :: so :: (nowH nw1 ++ (segs fs ++ L)) ∧ (NwOk nw1 ∧ nowS nw1 = begunN X (nowS nw) k)) (ss)) (fun K33 hK33 => ?_) ?_
              · simp only [h6_2, h6_9, h6_12, h6_34, h6_35, h6_36] at hK33
                refine SX.seq_k fun K34 hK34 => ?_
                refine SX.region_xd [some 41, some 42, some 43, some 44, some 45, some 46, some 47, some 48] rfl (fun ops hops => ?_)
                unfold Dsts at hops
                refine RX.live [2, 9, 10, 11, 12, 34, 35, 36] (fun T7 hT7 => ?_)
                simp only [forall_mem_cons', forall_mem_nil', go_sem, Φa, hP, h6_2, h6_9, h6_10, h6_11, h6_12, h6_34, h6_35, h6_36] at hT7
                obtain ⟨h7_2, h7_9, h7_10, h7_11, h7_12, h7_34, h7_35, h7_36⟩ := hT7
                clear h6_2 h6_9 h6_10 h6_11 h6_12 h6_34 h6_35 h6_36 T6
                refine RX.join 8 (fun (ss : Unit) T L' => T 48 = .bool (atZ X) ∧ T 2 = T7 2 ∧ T 9 = T7 9 ∧ T 10 = T7 10 ∧ T 11 = T7 11 ∧ T 12 = T7 12 ∧ T 34 = T7 34 ∧ T 35 = T7 35 ∧ T 36 = T7 36 ∧ L' = some (g16, .cells [.int .u8 r.code, .int .u16 r.ad, .int .u8 r.data, .bool r.rd, .bool r.wr, .int .u8 r.port, .bool r.q, .int .u8 r.md].toArray 29 (0, 0)) :: some (bR, .cells [.int .i64 X.1, .int .i64 X.2.1, .bool X.2.2.1, .int .i64 X.2.2.2].toArray 24 (0, 0)) :: so :: (nowH nw ++ (segs fs ++ L)) ∧ (True)) (fun K35 hK35 => ?_) ?_
                · simp only [h7_2, h7_9, h7_10, h7_11, h7_12, h7_34, h7_35, h7_36] at hK35
                  simp (maxSteps:=1000000)(dsimp:=false)(disch:=omega) only [go_sem, Φa, hP, h7_2, h7_9, h7_10, h7_11, h7_12, h7_34, h7_35, h7_36, hops]
                  repeat' (first | refine iteB (fun hg => ?_) (fun hg => ?_) | refine iteI (fun hg => ?_) (fun hg => ?_) | ((first | refine And.intro (by omega) ?_ | refine ⟨_, Cell.at 0 rfl rfl, ?_⟩ | refine ⟨_, Cell.at 1 rfl rfl, ?_⟩ | refine ⟨_, Cell.at 2 rfl rfl, ?_⟩ | fail); try (with_reducible refine stI ?_); try simp (maxSteps:=1000000)(dsimp:=false)(disch:=omega) only [go_sem, Φa, hP, h7_2, h7_9, h7_10, h7_11, h7_12, h7_34, h7_35, h7_36, hops]) | fail)
                  all_goals
                    refine hK35 () _ (some (g16, .cells [.int .u8 r.code, .int .u16 r.ad, .int .u8 r.data, .bool r.rd, .bool r.wr, .int .u8 r.port, .bool r.q, .int .u8 r.md].toArray 29 (0, 0)) :: some (bR, .cells [.int .i64 X.1, .int .i64 X.2.1, .bool X.2.2.1, .int .i64 X.2.2.2].toArray 24 (0, 0)) :: so :: (nowH nw ++ (segs fs ++ L))) _ (by first | exact Less.refl _ | exact Less.drop _ _ | exact Less.drops (Less.drop _ _) | exact Less.drops (Less.drops (Less.drop _ _)) | exact Less.drops (Less.drops (Less.drops (Less.drop _ _))) | exact Less.drops (Less.drops (Less.drops (Less.drops (Less.drop _ _))))) ?_
                    try dsimp only
                    refine ⟨?_, ?_, ?_, ?_, ?_, ?_, ?_, ?_, ?_, ?_, ?_⟩
                    · simp (maxSteps:=1000000)(dsimp:=false)(disch:=omega) only [go_sem, Φa, hP, h7_2, h7_9, h7_10, h7_11, h7_12, h7_34, h7_35, h7_36]
                      first | done | rfl | (refine congrArg Value.bool ?_; unfold atZ; simp_all; done)
                    · simp (maxSteps:=1000000)(dsimp:=false)(disch:=omega) only [go_sem, Φa, hP, h7_2, h7_9, h7_10, h7_11, h7_12, h7_34, h7_35, h7_36]
                    · simp (maxSteps:=1000000)(dsimp:=false)(disch:=omega) only [go_sem, Φa, hP, h7_2, h7_9, h7_10, h7_11, h7_12, h7_34, h7_35, h7_36]
                    · simp (maxSteps:=1000000)(dsimp:=false)(disch:=omega) only [go_sem, Φa, hP, h7_2, h7_9, h7_10, h7_11, h7_12, h7_34, h7_35, h7_36]
                    · simp (maxSteps:=1000000)(dsimp:=false)(disch:=omega) only [go_sem, Φa, hP, h7_2, h7_9, h7_10, h7_11, h7_12, h7_34, h7_35, h7_36]
                    · simp (maxSteps:=1000000)(dsimp:=false)(disch:=omega) only [go_sem, Φa, hP, h7_2, h7_9, h7_10, h7_11, h7_12, h7_34, h7_35, h7_36]
                    · simp (maxSteps:=1000000)(dsimp:=false)(disch:=omega) only [go_sem, Φa, hP, h7_2, h7_9, h7_10, h7_11, h7_12, h7_34, h7_35, h7_36]
                    · simp (maxSteps:=1000000)(dsimp:=false)(disch:=omega) only [go_sem, Φa, hP, h7_2, h7_9, h7_10, h7_11, h7_12, h7_34, h7_35, h7_36]
                    · simp (maxSteps:=1000000)(dsimp:=false)(disch:=omega) only [go_sem, Φa, hP, h7_2, h7_9, h7_10, h7_11, h7_12, h7_34, h7_35, h7_36]
                    · rfl
                    · trivial
                · intro ss T8 L8 hI
                  simp only [h7_2, h7_9, h7_10, h7_11, h7_12, h7_34, h7_35, h7_36] at hI 
                  obtain ⟨h8_48, h8_2, h8_9, h8_10, h8_11, h8_12, h8_34, h8_35, h8_36, hL8, hinv⟩ := hI
                  replace hL8 := hL8.symm
                  subst hL8
                  clear h7_2 h7_9 h7_10 h7_11 h7_12 h7_34 h7_35 h7_36 T7
                  refine RX.done ?_
                  simp (maxSteps:=1000000)(dsimp:=false)(disch:=omega) only [go_sem, Φa, hP, h8_48, h8_2, h8_9, h8_10, h8_11, h8_12, h8_34, h8_35, h8_36, hops]
                  refine hK34 _ _ ?_
                  try clear hK34 K34
                  refine SX.cond_k fun X36 Y36 hX36 hY36 => ?_
                  simp (maxSteps:=1000000)(dsimp:=false)(disch:=omega) only [go_sem, Φa, hP, h8_48, h8_2, h8_9, h8_10, h8_11, h8_12, h8_34, h8_35, h8_36, condVC]
                  refine ⟨fun hc48 => hX36 ?_, fun hc48 => hY36 ?_⟩
                  · clear hX36 hY36 X36 Y36
                    refine SX.region_d [some 49, some 50, some 10] rfl (fun ops hops => ?_)
                    unfold Dsts at hops
                    simp (maxSteps:=1000000)(dsimp:=false)(disch:=omega) only [go_sem, Φa, hP, h8_48, h8_2, h8_9, h8_10, h8_11, h8_12, h8_34, h8_35, h8_36, hops]
                    refine SCall.mono (begun_spec hP) ?_
                    rintro v_ L_ ⟨gp, g, rfl, rfl⟩
                    try with_reducible refine stI ?_
                    try simp (maxSteps:=1000000)(dsimp:=false)(disch:=omega) only [go_sem, Φa, hP, h8_48, h8_2, h8_9, h8_10, h8_11, h8_12, h8_34, h8_35, h8_36, hops]
                    refine hK33 (some (gp, ((⟨(k : Int), List.replicate 128 [], false⟩ : Fm), d0 g))) _ (some (g16, .cells [.int .u8 r.code, .int .u16 r.ad, .int .u8 r.data, .bool r.rd, .bool r.wr, .int .u8 r.port, .bool r.q, .int .u8 r.md].toArray 29 (0, 0)) :: some (bR, .cells [.int .i64 X.1, .int .i64 X.2.1, .bool X.2.2.1, .int .i64 X.2.2.2].toArray 24 (0, 0)) :: so :: (nowH ((some (gp, ((⟨(k : Int), List.replicate 128 [], false⟩ : Fm), d0 g)))) ++ (segs fs ++ L))) _ (by exact less_begun) ?_
                    try dsimp only
                    refine ⟨?_, ?_, ?_, ?_, ?_, ?_, ?_, ?_, ?_⟩
                    · simp (maxSteps:=1000000)(dsimp:=false)(disch:=omega) only [go_sem, Φa, hP, h8_48, h8_2, h8_9, h8_10, h8_11, h8_12, h8_34, h8_35, h8_36]
                      first | done | rfl | skip
                    · simp (maxSteps:=1000000)(dsimp:=false)(disch:=omega) only [go_sem, Φa, hP, h8_48, h8_2, h8_9, h8_10, h8_11, h8_12, h8_34, h8_35, h8_36]
                    · simp (maxSteps:=1000000)(dsimp:=false)(disch:=omega) only [go_sem, Φa, hP, h8_48, h8_2, h8_9, h8_10, h8_11, h8_12, h8_34, h8_35, h8_36]
                    · simp (maxSteps:=1000000)(dsimp:=false)(disch:=omega) only [go_sem, Φa, hP, h8_48, h8_2, h8_9, h8_10, h8_11, h8_12, h8_34, h8_35, h8_36]
                    · simp (maxSteps:=1000000)(dsimp:=false)(disch:=omega) only [go_sem, Φa, hP, h8_48, h8_2, h8_9, h8_10, h8_11, h8_12, h8_34, h8_35, h8_36]
                    · simp (maxSteps:=1000000)(dsimp:=false)(disch:=omega) only [go_sem, Φa, hP, h8_48, h8_2, h8_9, h8_10, h8_11, h8_12, h8_34, h8_35, h8_36]
                    · simp (maxSteps:=1000000)(dsimp:=false)(disch:=omega) only [go_sem, Φa, hP, h8_48, h8_2, h8_9, h8_10, h8_11, h8_12, h8_34, h8_35, h8_36]
                    · rfl
                    · refine ⟨fun q hq => ?_, ?_⟩
                      · cases hq; exact ⟨FdOk.start g, rfl⟩
                      · rw [begunN, if_pos hc48]; rfl
                  · clear hX36 hY36 X36 Y36
                    refine SX.skip ?_
                    try simp only [noGo_normal, noGo_ret, noGo_exit, andThen_normal, andThen_ret, andThen_exit, inBlk_normal, inBlk_ret, inBlk_exit, Nat.reduceEqDiff, if_true, if_false, ↓reduceIte]
                    refine hK33 nw _ (some (g16, .cells [.int .u8 r.code, .int .u16 r.ad, .int .u8 r.data, .bool r.rd, .bool r.wr, .int .u8 r.port, .bool r.q, .int .u8 r.md].toArray 29 (0, 0)) :: some (bR, .cells [.int .i64 X.1, .int .i64 X.2.1, .bool X.2.2.1, .int .i64 X.2.2.2].toArray 24 (0, 0)) :: so :: (nowH nw ++ (segs fs ++ L))) _ (by exact Less.refl _) ?_
                    try dsimp only
                    refine ⟨?_, ?_, ?_, ?_, ?_, ?_, ?_, ?_, ?_⟩
                    · simp (maxSteps:=1000000)(dsimp:=false)(disch:=omega) only [go_sem, Φa, hP, h8_48, h8_2, h8_9, h8_10, h8_11, h8_12, h8_34, h8_35, h8_36]
                      first | done | rfl | skip
                    · simp (maxSteps:=1000000)(dsimp:=false)(disch:=omega) only [go_sem, Φa, hP, h8_48, h8_2, h8_9, h8_10, h8_11, h8_12, h8_34, h8_35, h8_36]
                    · simp (maxSteps:=1000000)(dsimp:=false)(disch:=omega) only [go_sem, Φa, hP, h8_48, h8_2, h8_9, h8_10, h8_11, h8_12, h8_34, h8_35, h8_36]
                    · simp (maxSteps:=1000000)(dsimp:=false)(disch:=omega) only [go_sem, Φa, hP, h8_48, h8_2, h8_9, h8_10, h8_11, h8_12, h8_34, h8_35, h8_36]
                    · simp (maxSteps:=1000000)(dsimp:=false)(disch:=omega) only [go_sem, Φa, hP, h8_48, h8_2, h8_9, h8_10, h8_11, h8_12, h8_34, h8_35, h8_36]
                    · simp (maxSteps:=1000000)(dsimp:=false)(disch:=omega) only [go_sem, Φa, hP, h8_48, h8_2, h8_9, h8_10, h8_11, h8_12, h8_34, h8_35, h8_36]
                    · simp (maxSteps:=1000000)(dsimp:=false)(disch:=omega) only [go_sem, Φa, hP, h8_48, h8_2, h8_9, h8_10, h8_11, h8_12, h8_34, h8_35, h8_36]
                    · rfl
                    · exact ⟨hnw, by rw [begunN, if_neg (by rw [hc48]; exact Bool.false_ne_true)]⟩
              · intro nw1 T9 L9 hI
                try dsimp only at hI 
                simp only [h6_2, h6_9, h6_12, h6_34, h6_35, h6_36] at hI 
                obtain ⟨h9_10, h9_2, h9_9, h9_12, h9_34, h9_35, h9_36, hL9, ⟨hnk1, hns1⟩⟩ := hI
                replace hL9 := hL9.symm
                subst hL9
                clear h6_2 h6_9 h6_10 h6_11 h6_12 h6_34 h6_35 h6_36 T6
                refine SX.seq_k fun K37 hK37 => ?_
                refine SX.region_d [some 51, some 52, some 53, some 54, some 55, some 56, some 57, some 58, some 59, some 13, none] rfl (fun ops hops => ?_)
                unfold Dsts at hops
                simp (maxSteps:=1000000)(dsimp:=false)(disch:=omega) only [go_sem, Φa, hP, h9_10, h9_2, h9_9, h9_12, h9_34, h9_35, h9_36, hops]
                refine ⟨_, Cell.at 0 rfl rfl, ?_⟩
                try with_reducible refine stI ?_
                try simp (maxSteps:=1000000)(dsimp:=false)(disch:=omega) only [go_sem, Φa, hP, h9_10, h9_2, h9_9, h9_12, h9_34, h9_35, h9_36, hops]
                refine ⟨_, Cell.at 0 rfl rfl, ?_⟩
                try with_reducible refine stI ?_
                try simp (maxSteps:=1000000)(dsimp:=false)(disch:=omega) only [go_sem, Φa, hP, h9_10, h9_2, h9_9, h9_12, h9_34, h9_35, h9_36, hops]
                refine ⟨_, Cell.at 0 rfl rfl, ?_⟩
                try with_reducible refine stI ?_
                try simp (maxSteps:=1000000)(dsimp:=false)(disch:=omega) only [go_sem, Φa, hP, h9_10, h9_2, h9_9, h9_12, h9_34, h9_35, h9_36, hops]
                refine ⟨_, Cell.at 0 rfl rfl, ?_⟩
                try with_reducible refine stI ?_
                try simp (maxSteps:=1000000)(dsimp:=false)(disch:=omega) only [go_sem, Φa, hP, h9_10, h9_2, h9_9, h9_12, h9_34, h9_35, h9_36, hops]
                intro g19
                try with_reducible refine stI ?_
                try simp (maxSteps:=1000000)(dsimp:=false)(disch:=omega) only [go_sem, Φa, hP, h9_10, h9_2, h9_9, h9_12, h9_34, h9_35, h9_36, hops]
                refine ⟨0, _, _, _, rfl, by decide, .inr (by decide), ?_⟩
                try with_reducible refine stI ?_
                try simp (maxSteps:=1000000)(dsimp:=false)(disch:=omega) only [go_sem, Φa, hP, h9_10, h9_2, h9_9, h9_12, h9_34, h9_35, h9_36, hops]
                refine hK37 _ _ ?_
                try clear hK37 K37
                refine SX.live [2, 9, 10, 12, 13, 34, 35, 36] (fun T10 hT10 => ?_)
                simp only [forall_mem_cons', forall_mem_nil', go_sem, Φa, hP, h9_10, h9_2, h9_9, h9_12, h9_34, h9_35, h9_36] at hT10
                obtain ⟨h10_2, h10_9, h10_10, h10_12, h10_13, h10_34, h10_35, h10_36⟩ := hT10
                clear h9_10 h9_2 h9_9 h9_12 h9_34 h9_35 h9_36 T9
                refine SX.seq_k fun K38 hK38 => ?_
                refine SX.quiet_d (hP ▸ T.mixed) (by kernel_rfl) [some 60, some 61, some 62, some 63, some 64, some 65, some 14, some 15] rfl (fun ops hops => ?_)
                unfold Dsts at hops
                simp (maxSteps:=1000000)(dsimp:=false)(disch:=omega) only [go_sem, Φa, hP, h10_2, h10_9, h10_10, h10_12, h10_13, h10_34, h10_35, h10_36, hops]
                refine ⟨_, Cell.at 2 rfl rfl, _, Cell.at 2 rfl rfl, _, Cell.at 2 rfl rfl, _, Cell.at 2 rfl rfl, ?_⟩
                try with_reducible refine stI ?_
                try simp (maxSteps:=1000000)(dsimp:=false)(disch:=omega) only [go_sem, Φa, hP, h10_2, h10_9, h10_10, h10_12, h10_13, h10_34, h10_35, h10_36, hops]
                refine ⟨_, Cell.at 0 rfl rfl, _, Cell.at 0 rfl rfl, _, Cell.at 0 rfl rfl, _, Cell.at 0 rfl rfl, _, Cell.at 0 rfl rfl, _, Cell.at 0 rfl rfl, _, Cell.at 0 rfl rfl, _, Cell.at 0 rfl rfl, ?_⟩
                try with_reducible refine stI ?_
                try simp (maxSteps:=1000000)(dsimp:=false)(disch:=omega) only [go_sem, Φa, hP, h10_2, h10_9, h10_10, h10_12, h10_13, h10_34, h10_35, h10_36, hops]
                refine ⟨_, TakesR_spec hP S, ?_⟩
                try with_reducible refine stI ?_
                try simp (maxSteps:=1000000)(dsimp:=false)(disch:=omega) only [go_sem, Φa, hP, h10_2, h10_9, h10_10, h10_12, h10_13, h10_34, h10_35, h10_36, hops]
                refine ⟨_, Cell.at 2 rfl rfl, ?_⟩
                try with_reducible refine stI ?_
                try simp (maxSteps:=1000000)(dsimp:=false)(disch:=omega) only [go_sem, Φa, hP, h10_2, h10_9, h10_10, h10_12, h10_13, h10_34, h10_35, h10_36, hops]
                refine hK38 _ _ ?_
                try clear hK38 K38
                refine SX.seq_k fun K39 hK39 => ?_
                refine SX.region_d [some 66, some 67, some 68, some 69, some 70, none] rfl (fun ops hops => ?_)
                unfold Dsts at hops
                simp (maxSteps:=1000000)(dsimp:=false)(disch:=omega) only [go_sem, Φa, hP, h10_2, h10_9, h10_10, h10_12, h10_13, h10_34, h10_35, h10_36, hops]
                refine ⟨_, Cell.at 2 rfl rfl, _, Cell.at 2 rfl rfl, _, Cell.at 2 rfl rfl, _, Cell.at 2 rfl rfl, ?_⟩
                try with_reducible refine stI ?_
                try simp (maxSteps:=1000000)(dsimp:=false)(disch:=omega) only [go_sem, Φa, hP, h10_2, h10_9, h10_10, h10_12, h10_13, h10_34, h10_35, h10_36, hops]
                refine ⟨_, Cell.at 0 rfl rfl, _, Cell.at 0 rfl rfl, _, Cell.at 0 rfl rfl, _, Cell.at 0 rfl rfl, _, Cell.at 0 rfl rfl, _, Cell.at 0 rfl rfl, _, Cell.at 0 rfl rfl, _, Cell.at 0 rfl rfl, ?_⟩
                try with_reducible refine stI ?_
                try simp (maxSteps:=1000000)(dsimp:=false)(disch:=omega) only [go_sem, Φa, hP, h10_2, h10_9, h10_10, h10_12, h10_13, h10_34, h10_35, h10_36, hops]
                refine ⟨_, Cell.at 1 rfl rfl, ?_⟩
                try with_reducible refine stI ?_
                try simp (maxSteps:=1000000)(dsimp:=false)(disch:=omega) only [go_sem, Φa, hP, h10_2, h10_9, h10_10, h10_12, h10_13, h10_34, h10_35, h10_36, hops]
                refine SCall.mono (StepR_spec hP S) ?_
                rintro v_ L_ ⟨hv_, hL_⟩
                rw [hv_, hL_]
                clear hv_ hL_ v_ L_
                try with_reducible refine stI ?_
                try simp (maxSteps:=1000000)(dsimp:=false)(disch:=omega) only [go_sem, Φa, hP, h10_2, h10_9, h10_10, h10_12, h10_13, h10_34, h10_35, h10_36, hops]
                refine ⟨2, _, _, _, rfl, by simp, .inr (by decide), ?_⟩
                try with_reducible refine stI ?_
                try simp (maxSteps:=1000000)(dsimp:=false)(disch:=omega) only [go_sem, Φa, hP, h10_2, h10_9, h10_10, h10_12, h10_13, h10_34, h10_35, h10_36, hops]
                refine hK39 _ _ ?_
                try clear hK39 K39
                refine SX.live [2, 9, 10, 12, 14, 15, 34, 35, 36] (fun T11 hT11 => ?_)
                simp only [forall_mem_cons', forall_mem_nil', go_sem, Φa, hP, h10_2, h10_9, h10_10, h10_12, h10_13, h10_34, h10_35, h10_36] at hT11
                obtain ⟨h11_2, h11_9, h11_10, h11_12, h11_14, h11_15, h11_34, h11_35, h11_36⟩ := hT11
                clear h10_2 h10_9 h10_10 h10_12 h10_13 h10_34 h10_35 h10_36 T10
                refine SX.seq_k fun K40 hK40 => ?_
                refine SX.seq_k fun K41 hK41 => ?_
                refine SX.region_d [some 71, some 72] rfl (fun ops hops => ?_)
                unfold Dsts at hops
                simp (maxSteps:=1000000)(dsimp:=false)(disch:=omega) only [go_sem, Φa, hP, h11_2, h11_9, h11_10, h11_12, h11_14, h11_15, h11_34, h11_35, h11_36, hops, nowP, nowH]
                rcases nw1 with _ | ⟨gp, ⟨fa, fr, fsh⟩, d⟩
                · skip
                  try with_reducible refine stI ?_
                  try with_reducible refine stI ?_
                  try simp (maxSteps:=1000000)(dsimp:=false)(disch:=omega) only [go_sem, Φa, hP, h11_2, h11_9, h11_10, h11_12, h11_14, h11_15, h11_34, h11_35, h11_36, hops, nowP, nowH]
                  refine hK41 _ _ ?_
                  try clear hK41 K41
                  refine SX.cond_k fun X42 Y42 hX42 hY42 => ?_
                  simp (maxSteps:=1000000)(dsimp:=false)(disch:=omega) only [go_sem, Φa, hP, h11_2, h11_9, h11_10, h11_12, h11_14, h11_15, h11_34, h11_35, h11_36, condVC]
                  refine hX42 ?_
                  clear hX42 hY42 X42 Y42
                  refine SX.exit ?_
                  try simp only [noGo_normal, noGo_ret, noGo_exit, andThen_normal, andThen_ret, andThen_exit, inBlk_normal, inBlk_ret, inBlk_exit, Nat.reduceEqDiff, if_true, if_false, ↓reduceIte]
                  refine hK31 _ _ ?_
                  try clear hK31 K31
                  refine SX.region_d [some 113, some 36] rfl (fun ops hops => ?_)
                  unfold Dsts at hops
                  simp (maxSteps:=1000000)(dsimp:=false)(disch:=omega) only [go_sem, Φa, hP, h11_2, h11_9, h11_10, h11_12, h11_14, h11_15, h11_34, h11_35, h11_36, hops]
                  repeat' ((first | refine And.intro (by omega) ?_ | fail); try (with_reducible refine stI ?_); try simp (maxSteps:=1000000)(dsimp:=false)(disch:=omega) only [go_sem, Φa, hP, h11_2, h11_9, h11_10, h11_12, h11_14, h11_15, h11_34, h11_35, h11_36, hops])
                  refine hK27 (k + 1, rasN X r, none, vo, so, fs) _ (some (bR, .cells [.int .i64 (rasN X r).1, .int .i64 (rasN X r).2.1, .bool (rasN X r).2.2.1, .int .i64 (rasN X r).2.2.2].toArray 24 (0, 0)) :: so :: (nowH none ++ (segs fs ++ L))) _ (by exact Less.drops (Less.drop _ _)) ?_ ?_
                  · try dsimp only
                    refine ⟨?_, ?_, ?_, ?_, ?_, ?_, ?_, ?_⟩
                    · simp (maxSteps:=1000000)(dsimp:=false)(disch:=omega) only [go_sem, Φa, hP, h11_2, h11_9, h11_10, h11_12, h11_14, h11_15, h11_34, h11_35, h11_36]
                      first | done | rfl | skip
                    · simp (maxSteps:=1000000)(dsimp:=false)(disch:=omega) only [go_sem, Φa, hP, h11_2, h11_9, h11_10, h11_12, h11_14, h11_15, h11_34, h11_35, h11_36]
                      first | done | rfl | skip
                    · simp (maxSteps:=1000000)(dsimp:=false)(disch:=omega) only [go_sem, Φa, hP, h11_2, h11_9, h11_10, h11_12, h11_14, h11_15, h11_34, h11_35, h11_36]
                      first | done | rfl | skip
                    · simp (maxSteps:=1000000)(dsimp:=false)(disch:=omega) only [go_sem, Φa, hP, h11_2, h11_9, h11_10, h11_12, h11_14, h11_15, h11_34, h11_35, h11_36]
                    · simp (maxSteps:=1000000)(dsimp:=false)(disch:=omega) only [go_sem, Φa, hP, h11_2, h11_9, h11_10, h11_12, h11_14, h11_15, h11_34, h11_35, h11_36]
                    · simp (maxSteps:=1000000)(dsimp:=false)(disch:=omega) only [go_sem, Φa, hP, h11_2, h11_9, h11_10, h11_12, h11_14, h11_15, h11_34, h11_35, h11_36]
                    · rfl
                    · refine ⟨by omega, hrow, hfs, fun q hq => (by cases hq), ?_⟩
                      rw [hstep, stF_none hns1.symm]
                      rfl
                  · (try dsimp only); omega
                · skip
                  try with_reducible refine stI ?_
                  obtain ⟨hd, hsh⟩ := hnk1 _ rfl
                  cases hsh
                  have hcb := begunN_cnt hcn hns1.symm
                  dsimp only at hd hcb
                  try with_reducible refine stI ?_
                  try simp (maxSteps:=1000000)(dsimp:=false)(disch:=omega) only [go_sem, Φa, hP, h11_2, h11_9, h11_10, h11_12, h11_14, h11_15, h11_34, h11_35, h11_36, hops, nowP, nowH]
                  refine hK41 _ _ ?_
                  try clear hK41 K41
                  refine SX.cond_k fun X43 Y43 hX43 hY43 => ?_
                  simp (maxSteps:=1000000)(dsimp:=false)(disch:=omega) only [go_sem, Φa, hP, h11_2, h11_9, h11_10, h11_12, h11_14, h11_15, h11_34, h11_35, h11_36, condVC]
                  refine hY43 ?_
                  clear hX43 hY43 X43 Y43
                  refine SX.skip ?_
                  try simp only [noGo_normal, noGo_ret, noGo_exit, andThen_normal, andThen_ret, andThen_exit, inBlk_normal, inBlk_ret, inBlk_exit, Nat.reduceEqDiff, if_true, if_false, ↓reduceIte]
                  refine hK40 _ _ ?_
                  try clear hK40 K40
                  refine SX.live [2, 9, 10, 12, 14, 15, 34, 35, 36] (fun T12 hT12 => ?_)
                  simp only [forall_mem_cons', forall_mem_nil', go_sem, Φa, hP, h11_2, h11_9, h11_10, h11_12, h11_14, h11_15, h11_34, h11_35, h11_36] at hT12
                  obtain ⟨h12_2, h12_9, h12_10, h12_12, h12_14, h12_15, h12_34, h12_35, h12_36⟩ := hT12
                  clear h11_2 h11_9 h11_10 h11_12 h11_14 h11_15 h11_34 h11_35 h11_36 T11
                  refine SX.join (fun (ss : (Fd)) T L' => (fun (d1 : Fd) => T 2 = T12 2 ∧ T 9 = T12 9 ∧ T 10 = T12 10 ∧ T 34 = T12 34 ∧ T 35 = T12 35 ∧ T 36 = T12 36 ∧ L' = some (g19, .cells [.int .u8 r.code, .int .u16 0, .bool r.rd, .bool r.wr, .bool false, .int .u8 0, .int .u8 r.port, .bool false].toArray 49 (0, 0)) :: some (g16, .cells [.int .u8 r.code, .int .u16 r.ad, .int .u8 r.data, .bool r.rd, .bool r.wr, .int .u8 r.port, .bool r.q, .int .u8 r.md].toArray 29 (0, 0)) :: some (bR, .cells [.int .i64 (rasN X r).1, .int .i64 (rasN X r).2.1, .bool (rasN X r).2.2.1, .int .i64 (rasN X r).2.2.2].toArray 24 (0, 0)) :: so :: some (gp, .cells [.int .i64 fa, .slice (some ⟨d1.g, 0, none⟩) 128 128, .bool false].toArray 41 (0, 0)) :: (d1.seg ++ (segs fs ++ L)) ∧ (FdOk (tookN X r fr) d1)) (ss)) (fun K44 hK44 => ?_) ?_
                  · simp only [h12_2, h12_9, h12_10, h12_34, h12_35, h12_36] at hK44
                    refine SX.seq_k fun K45 hK45 => ?_
                    refine SX.region_d [some 73] rfl (fun ops hops => ?_)
                    unfold Dsts at hops
                    simp (maxSteps:=1000000)(dsimp:=false)(disch:=omega) only [go_sem, Φa, hP, h12_2, h12_9, h12_10, h12_12, h12_14, h12_15, h12_34, h12_35, h12_36, hops]
                    refine hK45 _ _ ?_
                    try clear hK45 K45
                    refine SX.cond_k fun X46 Y46 hX46 hY46 => ?_
                    simp (maxSteps:=1000000)(dsimp:=false)(disch:=omega) only [go_sem, Φa, hP, h12_2, h12_9, h12_10, h12_12, h12_14, h12_15, h12_34, h12_35, h12_36, condVC]
                    refine ⟨fun hc73 => hX46 ?_, fun hc73 => hY46 ?_⟩
                    · clear hX46 hY46 X46 Y46
                      have hlt := takesN_line hc73
                      have hlj : lineN X < d.ss.length := by have := hd.ns; omega
                      have hv := getD_get (d := undef) (by have := hd.nv; omega : lineN X < d.vals.length)
                      have hrw := hd.row (lineN X) hlt.1
                      have hln : (X.1 - 80).toNat = lineN X := rfl
                      have hca := cnt_at (by have := hd.n; omega : lineN X < fr.length)
                      refine SX.drawn_d [(0, .q), (1, .q), (2, .q), (3, .q), (4, .q), (5, .q), (6, .q), (7, .q), (8, .q), (9, .q), (10, .q), (11, .q), (12, .q), (13, .q), (14, .e), (15, .e), (16, .q), (17, .t)] (fun _ => [some (g16, .cells [.int .u8 r.code, .int .u16 r.ad, .int .u8 r.data, .bool r.rd, .bool r.wr, .int .u8 r.port, .bool r.q, .int .u8 r.md].toArray 29 (0, 0)), some (gp, .cells [.int .i64 fa, .slice (some ⟨d.g, 0, none⟩) 128 128, .bool false].toArray 41 (0, 0)), some (d.g, .cells d.vals.toArray 50 (0, 0))]) (hP ▸ T.mixed) (by kernel_rfl) (by exact lessG24) [some 74, some 75, some 76, some 77, some 78, some 79, some 80, some 81, some 82, some 83, some 84, some 85, some 86, some 87, some 88, some 89, some 90, none] rfl (fun ops hops hopl => ?_)
                      unfold Dsts at hops
                      simp (maxSteps:=1000000)(dsimp:=false)(disch:=omega) only [go_sem, Φa, hP, h12_2, h12_9, h12_10, h12_12, h12_14, h12_15, h12_34, h12_35, h12_36, hops, hopl, hln, nowP]
                      refine ⟨_, Cell.at 1 rfl rfl, ?_⟩
                      try with_reducible refine stI ?_
                      try simp (maxSteps:=1000000)(dsimp:=false)(disch:=omega) only [go_sem, Φa, hP, h12_2, h12_9, h12_10, h12_12, h12_14, h12_15, h12_34, h12_35, h12_36, hops, hopl, hln, nowP]
                      refine ⟨_, Cell.at 1 rfl rfl, ?_⟩
                      try with_reducible refine stI ?_
                      try simp (maxSteps:=1000000)(dsimp:=false)(disch:=omega) only [go_sem, Φa, hP, h12_2, h12_9, h12_10, h12_12, h12_14, h12_15, h12_34, h12_35, h12_36, hops, hopl, hln, nowP]
                      refine ⟨_, Cell.at 2 rfl hv, ?_⟩
                      try with_reducible refine stI ?_
                      try simp (maxSteps:=1000000)(dsimp:=false)(disch:=omega) only [go_sem, Φa, hP, h12_2, h12_9, h12_10, h12_12, h12_14, h12_15, h12_34, h12_35, h12_36, hops, hopl, hln, nowP]
                      refine ⟨_, Cell.at 0 rfl rfl, ?_⟩
                      try with_reducible refine stI ?_
                      try simp (maxSteps:=1000000)(dsimp:=false)(disch:=omega) only [go_sem, Φa, hP, h12_2, h12_9, h12_10, h12_12, h12_14, h12_15, h12_34, h12_35, h12_36, hops, hopl, hln, nowP]
                      intro g24
                      try with_reducible refine stI ?_
                      try simp (maxSteps:=1000000)(dsimp:=false)(disch:=omega) only [go_sem, Φa, hP, h12_2, h12_9, h12_10, h12_12, h12_14, h12_15, h12_34, h12_35, h12_36, hops, hopl, hln, nowP]
                      refine ⟨Less.drops lessG24, ?_⟩
                      try with_reducible refine stI ?_
                      try simp (maxSteps:=1000000)(dsimp:=false)(disch:=omega) only [go_sem, Φa, hP, h12_2, h12_9, h12_10, h12_12, h12_14, h12_15, h12_34, h12_35, h12_36, hops, hopl, hln, nowP]
                      refine YAppend.int1 (i := lineN X + 6) (hP ▸ T.elS_50) (hP ▸ T.zr_5) rfl (get6 hlj) hrw (by omega) (by decide) ?_
                      intro v' s' hr'
                      obtain ⟨A', c', rfl, hcc', _⟩ := Row.form hr'
                      try with_reducible refine stI ?_
                      try simp (maxSteps:=1000000)(dsimp:=false)(disch:=omega) only [go_sem, Φa, hP, h12_2, h12_9, h12_10, h12_12, h12_14, h12_15, h12_34, h12_35, h12_36, hops, hopl, hln, nowP]
                      rw [seg_set hlj]
                      refine ⟨Less.drops (lessG24 (d := ⟨d.g, d.vals, _⟩)), ?_⟩
                      try with_reducible refine stI ?_
                      try simp (maxSteps:=1000000)(dsimp:=false)(disch:=omega) only [go_sem, Φa, hP, h12_2, h12_9, h12_10, h12_12, h12_14, h12_15, h12_34, h12_35, h12_36, hops, hopl, hln, nowP]
                      refine ⟨6, _, _, _, rfl, (by have := hd.nv; simp; omega), .inr (by omega), ?_⟩
                      try with_reducible refine stI ?_
                      try simp (maxSteps:=1000000)(dsimp:=false)(disch:=omega) only [go_sem, Φa, hP, h12_2, h12_9, h12_10, h12_12, h12_14, h12_15, h12_34, h12_35, h12_36, hops, hopl, hln, nowP]
                      refine hK44 (⟨d.g, d.vals.set (lineN X) (.slice A' (fr.getD (lineN X) [] ++ [r.data]).length c'), d.ss.set (lineN X) s'⟩ : Fd) _ (some (g19, .cells [.int .u8 r.code, .int .u16 0, .bool r.rd, .bool r.wr, .bool false, .int .u8 0, .int .u8 r.port, .bool false].toArray 49 (0, 0)) :: some (g16, .cells [.int .u8 r.code, .int .u16 r.ad, .int .u8 r.data, .bool r.rd, .bool r.wr, .int .u8 r.port, .bool r.q, .int .u8 r.md].toArray 29 (0, 0)) :: some (bR, .cells [.int .i64 (rasN X r).1, .int .i64 (rasN X r).2.1, .bool (rasN X r).2.2.1, .int .i64 (rasN X r).2.2.2].toArray 24 (0, 0)) :: so :: some (gp, .cells [.int .i64 fa, .slice (some ⟨((⟨d.g, d.vals.set (lineN X) (.slice A' (fr.getD (lineN X) [] ++ [r.data]).length c'), d.ss.set (lineN X) s'⟩ : Fd)).g, 0, none⟩) 128 128, .bool false].toArray 41 (0, 0)) :: (((⟨d.g, d.vals.set (lineN X) (.slice A' (fr.getD (lineN X) [] ++ [r.data]).length c'), d.ss.set (lineN X) s'⟩ : Fd)).seg ++ (segs fs ++ L))) _ (by exact less24 hlj) ?_
                      try dsimp only
                      refine ⟨?_, ?_, ?_, ?_, ?_, ?_, ?_, ?_⟩
                      · simp (maxSteps:=1000000)(dsimp:=false)(disch:=omega) only [go_sem, Φa, hP, h12_2, h12_9, h12_10, h12_12, h12_14, h12_15, h12_34, h12_35, h12_36]
                      · simp (maxSteps:=1000000)(dsimp:=false)(disch:=omega) only [go_sem, Φa, hP, h12_2, h12_9, h12_10, h12_12, h12_14, h12_15, h12_34, h12_35, h12_36]
                      · simp (maxSteps:=1000000)(dsimp:=false)(disch:=omega) only [go_sem, Φa, hP, h12_2, h12_9, h12_10, h12_12, h12_14, h12_15, h12_34, h12_35, h12_36]
                      · simp (maxSteps:=1000000)(dsimp:=false)(disch:=omega) only [go_sem, Φa, hP, h12_2, h12_9, h12_10, h12_12, h12_14, h12_15, h12_34, h12_35, h12_36]
                      · simp (maxSteps:=1000000)(dsimp:=false)(disch:=omega) only [go_sem, Φa, hP, h12_2, h12_9, h12_10, h12_12, h12_14, h12_15, h12_34, h12_35, h12_36]
                      · simp (maxSteps:=1000000)(dsimp:=false)(disch:=omega) only [go_sem, Φa, hP, h12_2, h12_9, h12_10, h12_12, h12_14, h12_15, h12_34, h12_35, h12_36]
                      · rfl
                      · unfold tookN
                        rw [if_pos hc73]
                        exact hd.set hlt.1 hr'
                    · clear hX46 hY46 X46 Y46
                      refine SX.skip ?_
                      try simp only [noGo_normal, noGo_ret, noGo_exit, andThen_normal, andThen_ret, andThen_exit, inBlk_normal, inBlk_ret, inBlk_exit, Nat.reduceEqDiff, if_true, if_false, ↓reduceIte]
                      refine hK44 d _ (some (g19, .cells [.int .u8 r.code, .int .u16 0, .bool r.rd, .bool r.wr, .bool false, .int .u8 0, .int .u8 r.port, .bool false].toArray 49 (0, 0)) :: some (g16, .cells [.int .u8 r.code, .int .u16 r.ad, .int .u8 r.data, .bool r.rd, .bool r.wr, .int .u8 r.port, .bool r.q, .int .u8 r.md].toArray 29 (0, 0)) :: some (bR, .cells [.int .i64 (rasN X r).1, .int .i64 (rasN X r).2.1, .bool (rasN X r).2.2.1, .int .i64 (rasN X r).2.2.2].toArray 24 (0, 0)) :: so :: some (gp, .cells [.int .i64 fa, .slice (some ⟨d.g, 0, none⟩) 128 128, .bool false].toArray 41 (0, 0)) :: (d.seg ++ (segs fs ++ L))) _ (by exact Less.refl _) ?_
                      try dsimp only
                      refine ⟨?_, ?_, ?_, ?_, ?_, ?_, ?_, ?_⟩
                      · simp (maxSteps:=1000000)(dsimp:=false)(disch:=omega) only [go_sem, Φa, hP, h12_2, h12_9, h12_10, h12_12, h12_14, h12_15, h12_34, h12_35, h12_36]
                      · simp (maxSteps:=1000000)(dsimp:=false)(disch:=omega) only [go_sem, Φa, hP, h12_2, h12_9, h12_10, h12_12, h12_14, h12_15, h12_34, h12_35, h12_36]
                      · simp (maxSteps:=1000000)(dsimp:=false)(disch:=omega) only [go_sem, Φa, hP, h12_2, h12_9, h12_10, h12_12, h12_14, h12_15, h12_34, h12_35, h12_36]
                      · simp (maxSteps:=1000000)(dsimp:=false)(disch:=omega) only [go_sem, Φa, hP, h12_2, h12_9, h12_10, h12_12, h12_14, h12_15, h12_34, h12_35, h12_36]
                      · simp (maxSteps:=1000000)(dsimp:=false)(disch:=omega) only [go_sem, Φa, hP, h12_2, h12_9, h12_10, h12_12, h12_14, h12_15, h12_34, h12_35, h12_36]
                      · simp (maxSteps:=1000000)(dsimp:=false)(disch:=omega) only [go_sem, Φa, hP, h12_2, h12_9, h12_10, h12_12, h12_14, h12_15, h12_34, h12_35, h12_36]
                      · rfl
                      · unfold tookN
                        rw [if_neg (by rw [hc73]; exact Bool.false_ne_true)]
                        exact hd
                  · intro d1 T13 L13 hI
                    try dsimp only at hI 
                    simp only [h12_2, h12_9, h12_10, h12_34, h12_35, h12_36] at hI 
                    obtain ⟨h13_2, h13_9, h13_10, h13_34, h13_35, h13_36, hL13, hd1⟩ := hI
                    replace hL13 := hL13.symm
                    subst hL13
                    clear h12_2 h12_9 h12_10 h12_12 h12_14 h12_15 h12_34 h12_35 h12_36 T12
                    refine SX.seq_k fun K47 hK47 => ?_
                    refine SX.region_xd [some 91, some 92, some 93, some 94, some 95, some 96, some 97, some 98] rfl (fun ops hops => ?_)
                    unfold Dsts at hops
                    refine RX.live [2, 9, 10, 34, 35, 36] (fun T14 hT14 => ?_)
                    simp only [forall_mem_cons', forall_mem_nil', go_sem, Φa, hP, h13_2, h13_9, h13_10, h13_34, h13_35, h13_36] at hT14
                    obtain ⟨h14_2, h14_9, h14_10, h14_34, h14_35, h14_36⟩ := hT14
                    clear h13_2 h13_9 h13_10 h13_34 h13_35 h13_36 T13
                    refine RX.join 8 (fun (ss : Unit) T L' => T 98 = .bool (atZ (rasN X r)) ∧ T 2 = T14 2 ∧ T 9 = T14 9 ∧ T 10 = T14 10 ∧ T 34 = T14 34 ∧ T 35 = T14 35 ∧ T 36 = T14 36 ∧ L' = some (g19, .cells [.int .u8 r.code, .int .u16 0, .bool r.rd, .bool r.wr, .bool false, .int .u8 0, .int .u8 r.port, .bool false].toArray 49 (0, 0)) :: some (g16, .cells [.int .u8 r.code, .int .u16 r.ad, .int .u8 r.data, .bool r.rd, .bool r.wr, .int .u8 r.port, .bool r.q, .int .u8 r.md].toArray 29 (0, 0)) :: some (bR, .cells [.int .i64 (rasN X r).1, .int .i64 (rasN X r).2.1, .bool (rasN X r).2.2.1, .int .i64 (rasN X r).2.2.2].toArray 24 (0, 0)) :: so :: some (gp, .cells [.int .i64 fa, .slice (some ⟨d1.g, 0, none⟩) 128 128, .bool false].toArray 41 (0, 0)) :: (d1.seg ++ (segs fs ++ L)) ∧ (True)) (fun K48 hK48 => ?_) ?_
                    · simp only [h14_2, h14_9, h14_10, h14_34, h14_35, h14_36] at hK48
                      simp (maxSteps:=1000000)(dsimp:=false)(disch:=omega) only [go_sem, Φa, hP, h14_2, h14_9, h14_10, h14_34, h14_35, h14_36, hops]
                      repeat' (first | refine iteB (fun hg => ?_) (fun hg => ?_) | refine iteI (fun hg => ?_) (fun hg => ?_) | ((first | refine And.intro (by omega) ?_ | refine ⟨_, Cell.at 0 rfl rfl, ?_⟩ | refine ⟨_, Cell.at 1 rfl rfl, ?_⟩ | refine ⟨_, Cell.at 2 rfl rfl, ?_⟩ | refine ⟨_, Cell.at 3 rfl rfl, ?_⟩ | refine ⟨_, Cell.at 4 rfl rfl, ?_⟩ | fail); try (with_reducible refine stI ?_); try simp (maxSteps:=1000000)(dsimp:=false)(disch:=omega) only [go_sem, Φa, hP, h14_2, h14_9, h14_10, h14_34, h14_35, h14_36, hops]) | fail)
                      all_goals
                        refine hK48 () _ (some (g19, .cells [.int .u8 r.code, .int .u16 0, .bool r.rd, .bool r.wr, .bool false, .int .u8 0, .int .u8 r.port, .bool false].toArray 49 (0, 0)) :: some (g16, .cells [.int .u8 r.code, .int .u16 r.ad, .int .u8 r.data, .bool r.rd, .bool r.wr, .int .u8 r.port, .bool r.q, .int .u8 r.md].toArray 29 (0, 0)) :: some (bR, .cells [.int .i64 (rasN X r).1, .int .i64 (rasN X r).2.1, .bool (rasN X r).2.2.1, .int .i64 (rasN X r).2.2.2].toArray 24 (0, 0)) :: so :: some (gp, .cells [.int .i64 fa, .slice (some ⟨d1.g, 0, none⟩) 128 128, .bool false].toArray 41 (0, 0)) :: (d1.seg ++ (segs fs ++ L))) _ (by first | exact Less.refl _ | exact Less.drop _ _ | exact Less.drops (Less.drop _ _) | exact Less.drops (Less.drops (Less.drop _ _)) | exact Less.drops (Less.drops (Less.drops (Less.drop _ _))) | exact Less.drops (Less.drops (Less.drops (Less.drops (Less.drop _ _))))) ?_
                        try dsimp only
                        refine ⟨?_, ?_, ?_, ?_, ?_, ?_, ?_, ?_, ?_⟩
                        · simp (maxSteps:=1000000)(dsimp:=false)(disch:=omega) only [go_sem, Φa, hP, h14_2, h14_9, h14_10, h14_34, h14_35, h14_36]
                          first | done | rfl | (refine congrArg Value.bool ?_; unfold atZ; simp_all; done)
                        · simp (maxSteps:=1000000)(dsimp:=false)(disch:=omega) only [go_sem, Φa, hP, h14_2, h14_9, h14_10, h14_34, h14_35, h14_36]
                        · simp (maxSteps:=1000000)(dsimp:=false)(disch:=omega) only [go_sem, Φa, hP, h14_2, h14_9, h14_10, h14_34, h14_35, h14_36]
                        · simp (maxSteps:=1000000)(dsimp:=false)(disch:=omega) only [go_sem, Φa, hP, h14_2, h14_9, h14_10, h14_34, h14_35, h14_36]
                        · simp (maxSteps:=1000000)(dsimp:=false)(disch:=omega) only [go_sem, Φa, hP, h14_2, h14_9, h14_10, h14_34, h14_35, h14_36]
                        · simp (maxSteps:=1000000)(dsimp:=false)(disch:=omega) only [go_sem, Φa, hP, h14_2, h14_9, h14_10, h14_34, h14_35, h14_36]
                        · simp (maxSteps:=1000000)(dsimp:=false)(disch:=omega) only [go_sem, Φa, hP, h14_2, h14_9, h14_10, h14_34, h14_35, h14_36]
                        · rfl
                        · trivial
                    · intro ss T15 L15 hI
                      simp only [h14_2, h14_9, h14_10, h14_34, h14_35, h14_36] at hI 
                      obtain ⟨h15_98, h15_2, h15_9, h15_10, h15_34, h15_35, h15_36, hL15, hinv⟩ := hI
                      replace hL15 := hL15.symm
                      subst hL15
                      clear h14_2 h14_9 h14_10 h14_34 h14_35 h14_36 T14
                      refine RX.done ?_
                      simp (maxSteps:=1000000)(dsimp:=false)(disch:=omega) only [go_sem, Φa, hP, h15_98, h15_2, h15_9, h15_10, h15_34, h15_35, h15_36, hops]
                      refine hK47 _ _ ?_
                      try clear hK47 K47
                      refine SX.cond_k fun X49 Y49 hX49 hY49 => ?_
                      simp (maxSteps:=1000000)(dsimp:=false)(disch:=omega) only [go_sem, Φa, hP, h15_98, h15_2, h15_9, h15_10, h15_34, h15_35, h15_36, condVC]
                      refine ⟨fun hc98 => hX49 ?_, fun hc98 => hY49 ?_⟩
                      · clear hX49 hY49 X49 Y49
                        refine SX.seq_k fun K50 hK50 => ?_
                        have hcb2 := tookN_cnt (x := X) (r := r) hcb.2
                        have hsl1 : SlR (Cell Γ (some (g19, .cells [.int .u8 r.code, .int .u16 0, .bool r.rd, .bool r.wr, .bool false, .int .u8 0, .int .u8 r.port, .bool false].toArray 49 (0, 0)) :: some (g16, .cells [.int .u8 r.code, .int .u16 r.ad, .int .u8 r.data, .bool r.rd, .bool r.wr, .int .u8 r.port, .bool r.q, .int .u8 r.md].toArray 29 (0, 0)) :: some (bR, .cells [.int .i64 (rasN X r).1, .int .i64 (rasN X r).2.1, .bool (rasN X r).2.2.1, .int .i64 (rasN X r).2.2.2].toArray 24 (0, 0)) :: so :: some (gp, .cells [.int .i64 fa, .slice (some ⟨d1.g, 0, none⟩) 128 128, .bool false].toArray 41 (0, 0)) :: (d1.seg ++ (segs fs ++ L)))) d1.val (tookN X r fr) := hd1.sl (fun s hs => List.mem_cons_of_mem _ (List.mem_cons_of_mem _ (List.mem_cons_of_mem _ (List.mem_cons_of_mem _ (List.mem_cons_of_mem _ (List.mem_append_left _ hs))))))
                        have hrl1 := tookN_len X r fr
                        have hshb : decide (((cnt (tookN X r fr) : Nat) : Int) < 1024) = shortB (tookN X r fr) := decide_eq_decide.2 (by omega)
                        refine SX.region_d [some 99, some 100, some 101, some 102, some 103, some 104, some 105, some 106, none] rfl (fun ops hops => ?_)
                        unfold Dsts at hops
                        simp (maxSteps:=1000000)(dsimp:=false)(disch:=omega) only [go_sem, Φa, hP, h15_98, h15_2, h15_9, h15_10, h15_34, h15_35, h15_36, hops, hshb, nowP]
                        refine ⟨_, Cell.at 4 rfl rfl, _, Cell.at 4 rfl rfl, _, Cell.at 4 rfl rfl, ?_⟩
                        try with_reducible refine stI ?_
                        try simp (maxSteps:=1000000)(dsimp:=false)(disch:=omega) only [go_sem, Φa, hP, h15_98, h15_2, h15_9, h15_10, h15_34, h15_35, h15_36, hops, hshb, nowP]
                        refine SCall.mono (count_spec hP hsl1 (by omega) (by omega)) ?_
                        rintro v_ L_ ⟨hv_, hL_⟩
                        rw [hv_, hL_]
                        clear hv_ hL_ v_ L_
                        try with_reducible refine stI ?_
                        try simp (maxSteps:=1000000)(dsimp:=false)(disch:=omega) only [go_sem, Φa, hP, h15_98, h15_2, h15_9, h15_10, h15_34, h15_35, h15_36, hops, hshb, nowP]
                        refine ⟨4, _, _, _, rfl, (by simp), .inr (by decide), ?_⟩
                        try with_reducible refine stI ?_
                        try simp (maxSteps:=1000000)(dsimp:=false)(disch:=omega) only [go_sem, Φa, hP, h15_98, h15_2, h15_9, h15_10, h15_34, h15_35, h15_36, hops, hshb, nowP]
                        refine hK50 _ _ ?_
                        try clear hK50 K50
                        refine SX.seq_k fun K51 hK51 => ?_
                        refine SX.region_d [some 107, some 108, some 109, some 110, some 111, some 112, some 9] rfl (fun ops hops => ?_)
                        unfold Dsts at hops
                        simp (maxSteps:=1000000)(dsimp:=false)(disch:=omega) only [go_sem, Φa, hP, h15_98, h15_2, h15_9, h15_10, h15_34, h15_35, h15_36, hops, nowP]
                        refine ⟨_, Cell.at 4 rfl rfl, _, Cell.at 4 rfl rfl, _, Cell.at 4 rfl rfl, ?_⟩
                        try with_reducible refine stI ?_
                        try simp (maxSteps:=1000000)(dsimp:=false)(disch:=omega) only [go_sem, Φa, hP, h15_98, h15_2, h15_9, h15_10, h15_34, h15_35, h15_36, hops, nowP]
                        intro g27
                        try with_reducible refine stI ?_
                        try simp (maxSteps:=1000000)(dsimp:=false)(disch:=omega) only [go_sem, Φa, hP, h15_98, h15_2, h15_9, h15_10, h15_34, h15_35, h15_36, hops, nowP]
                        refine YAppend.rowL (f := fval) (x := ((⟨fa, tookN X r fr, shortB (tookN X r fr)⟩ : Fm), d1)) (i := 3) (z := [.int .i64 0, .slice none 0 0, .bool false]) (hP ▸ T.elS_30) (hP ▸ T.zr_41) rfl rfl rfl rfl hrow (by omega) (by decide) ?_
                        intro v' s' hrow'
                        try with_reducible refine stI ?_
                        try simp (maxSteps:=1000000)(dsimp:=false)(disch:=omega) only [go_sem, Φa, hP, h15_98, h15_2, h15_9, h15_10, h15_34, h15_35, h15_36, hops, nowP]
                        refine hK51 _ _ ?_
                        try clear hK51 K51
                        refine SX.live [2, 9, 34, 35, 36] (fun T16 hT16 => ?_)
                        simp only [forall_mem_cons', forall_mem_nil', go_sem, Φa, hP, h15_98, h15_2, h15_9, h15_10, h15_34, h15_35, h15_36] at hT16
                        obtain ⟨h16_2, h16_9, h16_34, h16_35, h16_36⟩ := hT16
                        clear h15_98 h15_2 h15_9 h15_10 h15_34 h15_35 h15_36 T15
                        refine SX.region_d [some 10] rfl (fun ops hops => ?_)
                        unfold Dsts at hops
                        simp (maxSteps:=1000000)(dsimp:=false)(disch:=omega) only [go_sem, Φa, hP, h16_2, h16_9, h16_34, h16_35, h16_36, hops]
                        refine hK31 _ _ ?_
                        try clear hK31 K31
                        refine SX.region_d [some 113, some 36] rfl (fun ops hops => ?_)
                        unfold Dsts at hops
                        simp (maxSteps:=1000000)(dsimp:=false)(disch:=omega) only [go_sem, Φa, hP, h16_2, h16_9, h16_34, h16_35, h16_36, hops]
                        repeat' ((first | refine And.intro (by omega) ?_ | fail); try (with_reducible refine stI ?_); try simp (maxSteps:=1000000)(dsimp:=false)(disch:=omega) only [go_sem, Φa, hP, h16_2, h16_9, h16_34, h16_35, h16_36, hops])
                        refine hK27 (k + 1, rasN X r, none, v', s', fs ++ [((⟨fa, tookN X r fr, shortB (tookN X r fr)⟩ : Fm), d1)]) _ (some (bR, .cells [.int .i64 (rasN X r).1, .int .i64 (rasN X r).2.1, .bool (rasN X r).2.2.1, .int .i64 (rasN X r).2.2.2].toArray 24 (0, 0)) :: s' :: (nowH none ++ (segs (fs ++ [((⟨fa, tookN X r fr, shortB (tookN X r fr)⟩ : Fm), d1)]) ++ L))) _ (by exact less_fin (fs := fs) (p := ((⟨fa, tookN X r fr, shortB (tookN X r fr)⟩ : Fm), d1))) ?_ ?_
                        · try dsimp only
                          refine ⟨?_, ?_, ?_, ?_, ?_, ?_, ?_, ?_⟩
                          · simp (maxSteps:=1000000)(dsimp:=false)(disch:=omega) only [go_sem, Φa, hP, h16_2, h16_9, h16_34, h16_35, h16_36]
                            first | done | rfl | skip
                          · simp (maxSteps:=1000000)(dsimp:=false)(disch:=omega) only [go_sem, Φa, hP, h16_2, h16_9, h16_34, h16_35, h16_36]
                            first | done | rfl | skip
                          · simp (maxSteps:=1000000)(dsimp:=false)(disch:=omega) only [go_sem, Φa, hP, h16_2, h16_9, h16_34, h16_35, h16_36]
                            first | done | rfl | skip
                          · simp (maxSteps:=1000000)(dsimp:=false)(disch:=omega) only [go_sem, Φa, hP, h16_2, h16_9, h16_34, h16_35, h16_36]
                          · simp (maxSteps:=1000000)(dsimp:=false)(disch:=omega) only [go_sem, Φa, hP, h16_2, h16_9, h16_34, h16_35, h16_36]
                          · simp (maxSteps:=1000000)(dsimp:=false)(disch:=omega) only [go_sem, Φa, hP, h16_2, h16_9, h16_34, h16_35, h16_36]
                          · rfl
                          · refine ⟨by omega, hrow', FsOk.app hfs hd1, fun q hq => (by cases hq), ?_⟩
                            rw [hstep, stF_fin hns1.symm hc98, List.map_append]
                            rfl
                        · (try dsimp only); omega
                      · clear hX49 hY49 X49 Y49
                        refine SX.skip ?_
                        try simp only [noGo_normal, noGo_ret, noGo_exit, andThen_normal, andThen_ret, andThen_exit, inBlk_normal, inBlk_ret, inBlk_exit, Nat.reduceEqDiff, if_true, if_false, ↓reduceIte]
                        refine hK31 _ _ ?_
                        try clear hK31 K31
                        refine SX.region_d [some 113, some 36] rfl (fun ops hops => ?_)
                        unfold Dsts at hops
                        simp (maxSteps:=1000000)(dsimp:=false)(disch:=omega) only [go_sem, Φa, hP, h15_98, h15_2, h15_9, h15_10, h15_34, h15_35, h15_36, hops]
                        repeat' ((first | refine And.intro (by omega) ?_ | fail); try (with_reducible refine stI ?_); try simp (maxSteps:=1000000)(dsimp:=false)(disch:=omega) only [go_sem, Φa, hP, h15_98, h15_2, h15_9, h15_10, h15_34, h15_35, h15_36, hops])
                        refine hK27 (k + 1, rasN X r, some (gp, (⟨fa, tookN X r fr, false⟩, d1)), vo, so, fs) _ (some (bR, .cells [.int .i64 (rasN X r).1, .int .i64 (rasN X r).2.1, .bool (rasN X r).2.2.1, .int .i64 (rasN X r).2.2.2].toArray 24 (0, 0)) :: so :: (nowH (some (gp, (⟨fa, tookN X r fr, false⟩, d1))) ++ (segs fs ++ L))) _ (by exact Less.drops (Less.drop _ _)) ?_ ?_
                        · try dsimp only
                          refine ⟨?_, ?_, ?_, ?_, ?_, ?_, ?_, ?_⟩
                          · simp (maxSteps:=1000000)(dsimp:=false)(disch:=omega) only [go_sem, Φa, hP, h15_98, h15_2, h15_9, h15_10, h15_34, h15_35, h15_36]
                            first | done | rfl | skip
                          · simp (maxSteps:=1000000)(dsimp:=false)(disch:=omega) only [go_sem, Φa, hP, h15_98, h15_2, h15_9, h15_10, h15_34, h15_35, h15_36]
                            first | done | rfl | skip
                          · simp (maxSteps:=1000000)(dsimp:=false)(disch:=omega) only [go_sem, Φa, hP, h15_98, h15_2, h15_9, h15_10, h15_34, h15_35, h15_36]
                            first | done | rfl | skip
                          · simp (maxSteps:=1000000)(dsimp:=false)(disch:=omega) only [go_sem, Φa, hP, h15_98, h15_2, h15_9, h15_10, h15_34, h15_35, h15_36]
                          · simp (maxSteps:=1000000)(dsimp:=false)(disch:=omega) only [go_sem, Φa, hP, h15_98, h15_2, h15_9, h15_10, h15_34, h15_35, h15_36]
                          · simp (maxSteps:=1000000)(dsimp:=false)(disch:=omega) only [go_sem, Φa, hP, h15_98, h15_2, h15_9, h15_10, h15_34, h15_35, h15_36]
                          · rfl
                          · refine ⟨by omega, hrow, hfs, fun q hq => (by cases hq; exact ⟨hd1, rfl⟩), ?_⟩
                            rw [hstep, stF_go hns1.symm hc98]
                            rfl
                        · (try dsimp only); omega
            · clear hX30 hY30 X30 Y30
              refine SX.exit ?_
              try simp only [noGo_normal, noGo_ret, noGo_exit, andThen_normal, andThen_ret, andThen_exit, inBlk_normal, inBlk_ret, inBlk_exit, Nat.reduceEqDiff, if_true, if_false, ↓reduceIte]
              refine hK25 _ _ ?_
              try clear hK25 K25
              refine SX.seq_k fun K52 hK52 => ?_
              refine SX.region_d [some 114, some 4, some 5] rfl (fun ops hops => ?_)
              unfold Dsts at hops
              simp (maxSteps:=1000000)(dsimp:=false)(disch:=omega) only [go_sem, Φa, hP, h5_9, h5_10, h5_36, h5_2, h5_34, h5_35, hops]
              refine hK52 _ _ ?_
              try clear hK52 K52
              refine SX.ret ?_
              simp only [noGo_normal, noGo_ret, noGo_exit, andThen_normal, andThen_ret, andThen_exit, inBlk_normal, inBlk_ret, inBlk_exit, Nat.reduceEqDiff, if_true, if_false, ↓reduceIte, retQ_ret]
              try simp only [res0, res1, res2, res3, stK_e, go_sem, Φa, hP, h5_9, h5_10, h5_36, h5_2, h5_34, h5_35]
              obtain rfl : k = l.length := by omega
              refine ⟨_, _, less_end, rfl, ?_⟩
              have ho := ofP_ok hok hgood
              rw [hst] at ho
              exact ⟨vo, so, fs, by rw [ho], rfl, hrow, hfs, by rw [ho]⟩

end Go.Proofs.YtpakphgeichopaaDoor
