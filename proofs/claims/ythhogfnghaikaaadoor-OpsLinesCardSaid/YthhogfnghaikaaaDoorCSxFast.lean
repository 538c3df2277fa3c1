/- A part of the proof of OpsLinesCardSaid. -/
import Derived.Test.YthhogfnghaikaaaDoorCSxIn
import Derived.Test.YthhogfnghaikaaaDoorCSxCopy
import Derived.Test.YthhogfnghaikaaaDoorCSxEnd
set_option linter.unusedVariables false
set_option linter.unusedSimpArgs false
/-! The words of the walk, so said that what follows is looked at once only. -/
universe u
namespace Go.SX
open Go.RowKit
abbrev Dm (_ : Prop) : Type := Unit
def dm (p : Prop) : Dm p := ()
/-- What is not looked at before it is asked for. -/
def stK (p : Prop) (_ : Dm p) : Prop := p
theorem stI {p : Prop} {x : Dm p} (h : p) : stK p x := h
theorem stK_e {p : Prop} {x : Dm p} : stK p x = p := Classical.byContradiction fun h => h rfl
abbrev st (p : Prop) : Prop := stK p (dm p)
/-- What an option's value brings. -/
def oM {α : Type} (o : Option α) (s : α → Prop) (n : Prop) : Prop := match o with | some a => s a | none => n
theorem oM_some {α : Type} (a : α) (s : α → Prop) (n : Prop) : oM (some a) s n = s a := rfl
theorem oM_none {α : Type} (s : α → Prop) (n : Prop) : oM none s n = n := rfl
def gB (v : Value) (want : Bool) (Y N F : Prop) : Prop := match v with | .bool b => if b = want then Y else N | _ => F
theorem gB_bool (b want : Bool) (Y N F : Prop) : gB (.bool b) want Y N F = if b = want then Y else N := rfl
def strD (o : Option TypeDesc) (Y D : Prop) : Prop := match o with | some .string => Y | _ => D
theorem strD_string (Y D : Prop) : strD (some .string) Y D = Y := rfl
def boxVC (v : Value) (t : TypeId) (L : Hp) (K : Value → Hp → Prop) : Prop := ∀ b, K (.pointer (some ⟨b, 0, none⟩)) (some (b, .cells v.cells t (0, 0)) :: L)
theorem box_e (v : Value) (t : TypeId) (L : Hp) (K : Value → Hp → Prop) : boxVC v t L K = ∀ b, stK (K (.pointer (some ⟨b, 0, none⟩)) (some (b, .cells v.cells t (0, 0)) :: L)) () := rfl
def bsVC (Γ : Ctx) (t : TypeId) (len : Nat) (parts : List (Nat × Value)) (size : Nat) (L : Hp) (K : Value → Hp → Prop) (D : Prop) : Prop :=
  oM (elS Γ.P t) (fun p => (inOrd p.2.1 0 parts = true ∧ size = len ∧ len * p.2.1 ≤ 16777216 ∧ (zr Γ.P p.1).map List.length = some p.2.1) ∧ ∀ b, K (.slice (some ⟨b, 0, none⟩) len len) (some (b, .cells (catV parts).toArray p.1 (0, 0)) :: L)) D
theorem bs_e (Γ : Ctx) (t : TypeId) (len : Nat) (parts : List (Nat × Value)) (size : Nat) (L : Hp) (K : Value → Hp → Prop) (D : Prop) : bsVC Γ t len parts size L K D =
  oM (elS Γ.P t) (fun p => (inOrd p.2.1 0 parts = true ∧ size = len ∧ len * p.2.1 ≤ 16777216 ∧ (zr Γ.P p.1).map List.length = some p.2.1) ∧ ∀ b, stK (K (.slice (some ⟨b, 0, none⟩) len len) (some (b, .cells (catV parts).toArray p.1 (0, 0)) :: L)) ()) D := rfl
def cvD (u : TypeDesc) (P : Program) (str : ByteArray) (L : Hp) (K2 : Value → Hp → Prop) (D : Prop) : Prop := match u with
  | .slice e => P.underlying e = some (.int .u8) ∧ ∀ b cap, str.size ≤ cap → K2 (.slice (some ⟨b, 0, none⟩) str.size cap) (some (b, .cells (bytesV str ++ List.replicate (cap - str.size) (Value.int .u8 0)).toArray e (cap, cap + 1)) :: L)
  | .string => K2 (.string str) L
  | _ => D
theorem cvD_slice (e : TypeId) (P : Program) (str : ByteArray) (L : Hp) (K2 : Value → Hp → Prop) (D : Prop) : cvD (.slice e) P str L K2 D = (P.underlying e = some (.int .u8) ∧ ∀ b cap, str.size ≤ cap → stK (K2 (.slice (some ⟨b, 0, none⟩) str.size cap) (some (b, .cells (bytesV str ++ List.replicate (cap - str.size) (Value.int .u8 0)).toArray e (cap, cap + 1)) :: L)) ()) := rfl
theorem cvD_string (P : Program) (str : ByteArray) (L : Hp) (K2 : Value → Hp → Prop) (D : Prop) : cvD .string P str L K2 D = K2 (.string str) L := rfl
def evP (T : Env) : List (Nat × Operand) → List (Nat × Value)
  | [] => []
  | p :: r => (p.1, ev T p.2) :: evP T r
theorem evP_map (T : Env) (l : List (Nat × Operand)) : (l.map fun p => (p.1, ev T p.2)) = evP T l := by
  induction l with
  | nil => rfl
  | cons p r ih => rw [List.map_cons, ih]; rfl
theorem evP_nil (T : Env) : evP T [] = [] := rfl
theorem evP_cons (T : Env) (p : Nat × Operand) (r : List (Nat × Operand)) : evP T (p :: r) = (p.1, ev T p.2) :: evP T r := rfl
def fillK (place : Nat → Option (Nat × Nat)) (cells : List Value) (parts : List (Nat × Value)) (K : List Value → Prop) (D : Prop) : Prop := match fillL place cells parts with | some cs => K cs | none => D
theorem fillK_nil (place : Nat → Option (Nat × Nat)) (cells : List Value) (K : List Value → Prop) (D : Prop) : fillK place cells [] K D = K cells := rfl
theorem fillK_cons (place : Nat → Option (Nat × Nat)) (cells : List Value) (i : Nat) (v : Value) (rest : List (Nat × Value)) (K : List Value → Prop) (D : Prop) :
    fillK place cells ((i, v) :: rest) K D = oM (place i) (fun p => if v.cells.size = p.2 ∧ p.1 + p.2 ≤ cells.length then fillK place (setN cells p.1 v.cells.toList) rest K D else D) D := by
  unfold fillK oM
  rw [fillL]
  cases place i with
  | none => rfl
  | some p =>
    obtain ⟨off, size⟩ := p
    dsimp only
    by_cases h : v.cells.size = size ∧ off + size ≤ cells.length
    · rw [if_pos h, if_pos h]
    · rw [if_neg h, if_neg h]
def intD (o : TypeDesc) (K : IntKind → Prop) (D : Prop) : Prop := match o with | .int k => K k | _ => D
theorem intD_int (k : IntKind) (K : IntKind → Prop) (D : Prop) : intD (.int k) K D = K k := rfl
section
variable {Γ : Ctx} {P : Program} {n : Nat} {ops : Array Oper} {T : Env} {L : Hp} {t s d : TypeId} {k k' : IntKind} {a b : Int} {D : Prop} {ad : Addr}
variable {D2 : Prop} {K : Value → Prop} {K2 : Value → Hp → Prop} {K3 : Hp → Prop} {yes no : Env → Prop} {dst : Option Tmp} {ty : TypeId} {ps : String} {af : Array Edge} {g : Option (Nat × Bool)}
theorem guard_none : guardVC ops none T yes no = yes T := rfl
theorem guard_some (j : Nat) (want : Bool) : guardVC ops (some (j, want)) T yes no = oM ((ops.toList[j]?).bind (·.dst)) (fun d => gB (T d) want (yes (upd T d (.bool want))) (no (upd T d (.bool (!want)))) (no T)) (no T) := by
  unfold guardVC oM gB
  dsimp only
  cases (ops.toList[j]?).bind (·.dst) <;> rfl
theorem put_none (v : Value) (k : Env → Prop) : putVC n none v T k = k T := rfl
theorem put_some (d : Nat) (v : Value) (k : Env → Prop) : putVC n (some d) v T k = (d < n ∧ k (upd T d v)) := rfl
theorem plan_nil {G : Hp → Hp} {Q : Env → Hp → Prop} : VCplan Γ n ops G [] Q T L = Q T L := rfl
theorem plan_q {G : Hp → Hp} {Q : Env → Hp → Prop} (i : Nat) (r : List (Nat × Kd)) : VCplan Γ n ops G ((i, .q) :: r) Q T L = oM (ops.toList[i]?) (fun o => guardVC ops o.guard T (fun T => VQ Γ o T (G L) (fun v => putVC n o.dst v T (fun T => VCplan Γ n ops G r Q T L))) (fun T => putVC n o.dst undef T (fun T => VCplan Γ n ops G r Q T L))) False := by
  unfold oM; rw [VCplan]; cases ops.toList[i]? <;> rfl
theorem plan_c {G : Hp → Hp} {Q : Env → Hp → Prop} (i : Nat) (r : List (Nat × Kd)) : VCplan Γ n ops G ((i, .c) :: r) Q T L = oM (ops.toList[i]?) (fun o => guardVC ops o.guard T (fun T => ∃ v, (∀ L0, Less L0 (G L) → VC Γ o T L0 (fun u L1 => u = v ∧ L1 = L0)) ∧ putVC n o.dst v T (fun T => VCplan Γ n ops G r Q T L)) (fun T => putVC n o.dst undef T (fun T => VCplan Γ n ops G r Q T L))) False := by
  unfold oM; rw [VCplan]; cases ops.toList[i]? <;> rfl
theorem plan_e {G : Hp → Hp} {Q : Env → Hp → Prop} (i : Nat) (r : List (Nat × Kd)) : VCplan Γ n ops G ((i, .e) :: r) Q T L = oM (ops.toList[i]?) (fun o => guardVC ops o.guard T (fun T => VC Γ o T L (fun v L' => putVC n o.dst v T (fun T => (Less L' (G L') ∧ Less (G L') (G L)) ∧ VCplan Γ n ops G r Q T L'))) (fun T => putVC n o.dst undef T (fun T => VCplan Γ n ops G r Q T L))) False := by
  unfold oM; rw [VCplan]; cases ops.toList[i]? <;> rfl
theorem plan_t {G : Hp → Hp} {Q : Env → Hp → Prop} (i : Nat) (r : List (Nat × Kd)) : VCplan Γ n ops G ((i, .t) :: r) Q T L = oM (ops.toList[i]?) (fun o => guardVC ops o.guard T (fun T => VC Γ o T L (fun v L' => putVC n o.dst v T (fun T => VCplan Γ n ops G r Q T L'))) (fun T => putVC n o.dst undef T (fun T => VCplan Γ n ops G r Q T L))) False := by
  unfold oM; rw [VCplan]; cases ops.toList[i]? <;> rfl
/-! one operation, quiet -/
theorem VQ_move (x : Operand) : VQ Γ ⟨dst, .move x, ty, ps, af, g⟩ T L K = K (ev T x) := rfl
theorem VC_move (x : Operand) : VC Γ ⟨dst, .move x, ty, ps, af, g⟩ T L K2 = (fun v => K2 v L) (ev T x) := rfl
theorem VQ_assign (x : Operand) : VQ Γ ⟨dst, .assign x, ty, ps, af, g⟩ T L K = K (ev T x) := rfl
theorem VC_assign (x : Operand) : VC Γ ⟨dst, .assign x, ty, ps, af, g⟩ T L K2 = (fun v => K2 v L) (ev T x) := rfl
theorem VQ_pick (c x y : Operand) : VQ Γ ⟨dst, .pick c x y, ty, ps, af, g⟩ T L K = pickVC (ev T c) (ev T x) (ev T y) K False := rfl
theorem VC_pick (c x y : Operand) : VC Γ ⟨dst, .pick c x y, ty, ps, af, g⟩ T L K2 = pickVC (ev T c) (ev T x) (ev T y) (fun v => K2 v L) False := rfl
theorem VQ_load (e : TypeId) (x : Operand) : VQ Γ ⟨dst, .load e x, ty, ps, af, g⟩ T L K = ldVC Γ e (ev T x) L K False := rfl
theorem VC_load (e : TypeId) (x : Operand) : VC Γ ⟨dst, .load e x, ty, ps, af, g⟩ T L K2 = ldVC Γ e (ev T x) L (fun v => K2 v L) False := rfl
theorem VQ_nilCheck (x : Operand) : VQ Γ ⟨dst, .nilCheck x, ty, ps, af, g⟩ T L K = nilVC (ev T x) K False := rfl
theorem VC_nilCheck (x : Operand) : VC Γ ⟨dst, .nilCheck x, ty, ps, af, g⟩ T L K2 = nilVC (ev T x) (fun v => K2 v L) False := rfl
theorem VQ_unOp (op : UnOp) (e : TypeId) (x : Operand) : VQ Γ ⟨dst, .unOp op e x, ty, ps, af, g⟩ T L K = unVC op (ev T x) K False := rfl
theorem VC_unOp (op : UnOp) (e : TypeId) (x : Operand) : VC Γ ⟨dst, .unOp op e x, ty, ps, af, g⟩ T L K2 = unVC op (ev T x) (fun v => K2 v L) False := rfl
theorem VQ_binOp (op : BinOp) (e e2 : TypeId) (x y : Operand) : VQ Γ ⟨dst, .binOp op e x y e2, ty, ps, af, g⟩ T L K = binVC Γ.P op e (ev T x) (ev T y) K (YieldsQ Γ ⟨dst, .binOp op e x y e2, ty, ps, af, g⟩ T L K) := rfl
theorem VC_binOp (op : BinOp) (e e2 : TypeId) (x y : Operand) : VC Γ ⟨dst, .binOp op e x y e2, ty, ps, af, g⟩ T L K2 = binVC Γ.P op e (ev T x) (ev T y) (fun v => K2 v L) (YieldsQ Γ ⟨dst, .binOp op e x y e2, ty, ps, af, g⟩ T L (fun v => K2 v L)) := rfl
theorem VQ_makeFunc (fn : Fn) (x y : Array Operand) : VQ Γ ⟨dst, .makeFunc fn x y, ty, ps, af, g⟩ T L K = K (.func fn (x.map (ev T)) (y.map (ev T))) := rfl
theorem VC_makeFunc (fn : Fn) (x y : Array Operand) : VC Γ ⟨dst, .makeFunc fn x y, ty, ps, af, g⟩ T L K2 = (fun v => K2 v L) (.func fn (x.map (ev T)) (y.map (ev T))) := rfl
theorem VQ_fieldAddr (e : TypeId) (x : Operand) (f : Nat) : VQ Γ ⟨dst, .fieldAddr e x f, ty, ps, af, g⟩ T L K = faVC Γ.P e (ev T x) f K False := rfl
theorem VC_fieldAddr (e : TypeId) (x : Operand) (f : Nat) : VC Γ ⟨dst, .fieldAddr e x f, ty, ps, af, g⟩ T L K2 = faVC Γ.P e (ev T x) f (fun v => K2 v L) False := rfl
theorem VQ_field (e : TypeId) (x : Operand) (f : Nat) : VQ Γ ⟨dst, .field e x f, ty, ps, af, g⟩ T L K = fieldVC Γ.P e (ev T x) f K False := rfl
theorem VC_field (e : TypeId) (x : Operand) (f : Nat) : VC Γ ⟨dst, .field e x f, ty, ps, af, g⟩ T L K2 = fieldVC Γ.P e (ev T x) f (fun v => K2 v L) False := rfl
theorem VQ_indexAddr (e : TypeId) (x y : Operand) : VQ Γ ⟨dst, .indexAddr e x y, ty, ps, af, g⟩ T L K = indexAddrVC Γ.P e (ev T x) (ev T y) K False := rfl
theorem VC_indexAddr (e : TypeId) (x y : Operand) : VC Γ ⟨dst, .indexAddr e x y, ty, ps, af, g⟩ T L K2 = indexAddrVC Γ.P e (ev T x) (ev T y) (fun v => K2 v L) False := rfl
theorem VQ_index (e : TypeId) (x y : Operand) : VQ Γ ⟨dst, .index e x y, ty, ps, af, g⟩ T L K = indexVC Γ.P e (ev T x) (ev T y) K False := rfl
theorem VC_index (e : TypeId) (x y : Operand) : VC Γ ⟨dst, .index e x y, ty, ps, af, g⟩ T L K2 = indexVC Γ.P e (ev T x) (ev T y) (fun v => K2 v L) False := rfl
theorem VQ_slice (e : TypeId) (x : Operand) (lo hi mx : Option Operand) : VQ Γ ⟨dst, .slice e x lo hi mx, ty, ps, af, g⟩ T L K = sliceVC Γ.P e (ev T x) (lo.map (ev T)) (hi.map (ev T)) (mx.map (ev T)) K False := rfl
theorem VC_slice (e : TypeId) (x : Operand) (lo hi mx : Option Operand) : VC Γ ⟨dst, .slice e x lo hi mx, ty, ps, af, g⟩ T L K2 = sliceVC Γ.P e (ev T x) (lo.map (ev T)) (hi.map (ev T)) (mx.map (ev T)) (fun v => K2 v L) False := rfl
theorem VQ_extract (x : Operand) (i : Nat) : VQ Γ ⟨dst, .extract x i, ty, ps, af, g⟩ T L K = extVC (ev T x) i K False := rfl
theorem VC_extract (x : Operand) (i : Nat) : VC Γ ⟨dst, .extract x i, ty, ps, af, g⟩ T L K2 = extVC (ev T x) i (fun v => K2 v L) False := rfl
theorem VQ_build (e : TypeId) (parts : List (Nat × Operand)) : VQ Γ ⟨dst, .build e parts.toArray, ty, ps, af, g⟩ T L K = buildVC Γ.P e (evP T parts) K False := by rw [← evP_map]; rfl
theorem VC_build (e : TypeId) (parts : List (Nat × Operand)) : VC Γ ⟨dst, .build e parts.toArray, ty, ps, af, g⟩ T L K2 = buildVC Γ.P e (evP T parts) (fun v => K2 v L) False := by rw [← evP_map]; rfl
theorem VQ_lookup (e : TypeId) (x y : Operand) (ok : Bool) : VQ Γ ⟨dst, .lookup e x y ok, ty, ps, af, g⟩ T L K = lkVC Γ e (ev T x) (ev T y) ok L K False := rfl
theorem VC_lookup (e : TypeId) (x y : Operand) (ok : Bool) : VC Γ ⟨dst, .lookup e x y ok, ty, ps, af, g⟩ T L K2 = lkVC Γ e (ev T x) (ev T y) ok L (fun v => K2 v L) False := rfl
theorem VQ_len (x : Operand) (e : TypeId) : VQ Γ ⟨dst, .call ⟨.builtin .len, #[x], #[e]⟩, ty, ps, af, g⟩ T L K = lenVC Γ.P e (ev T x) K False := rfl
theorem VC_len (x : Operand) (e : TypeId) : VC Γ ⟨dst, .call ⟨.builtin .len, #[x], #[e]⟩, ty, ps, af, g⟩ T L K2 = lenVC Γ.P e (ev T x) (fun v => K2 v L) False := rfl
theorem VQ_cap (x : Operand) (e : TypeId) : VQ Γ ⟨dst, .call ⟨.builtin .cap, #[x], #[e]⟩, ty, ps, af, g⟩ T L K = capVC Γ.P e (ev T x) K False := rfl
theorem VC_cap (x : Operand) (e : TypeId) : VC Γ ⟨dst, .call ⟨.builtin .cap, #[x], #[e]⟩, ty, ps, af, g⟩ T L K2 = capVC Γ.P e (ev T x) (fun v => K2 v L) False := rfl
theorem VQ_min (x y : Operand) (ts : Array TypeId) : VQ Γ ⟨dst, .call ⟨.builtin .min, #[x, y], ts⟩, ty, ps, af, g⟩ T L K = minVC (ev T x) (ev T y) K False := rfl
theorem VC_min (x y : Operand) (ts : Array TypeId) : VC Γ ⟨dst, .call ⟨.builtin .min, #[x, y], ts⟩, ty, ps, af, g⟩ T L K2 = minVC (ev T x) (ev T y) (fun v => K2 v L) False := rfl
theorem VQ_max (x y : Operand) (ts : Array TypeId) : VQ Γ ⟨dst, .call ⟨.builtin .max, #[x, y], ts⟩, ty, ps, af, g⟩ T L K = maxVC (ev T x) (ev T y) K False := rfl
theorem VC_max (x y : Operand) (ts : Array TypeId) : VC Γ ⟨dst, .call ⟨.builtin .max, #[x, y], ts⟩, ty, ps, af, g⟩ T L K2 = maxVC (ev T x) (ev T y) (fun v => K2 v L) False := rfl
theorem VQ_convert (e e2 : TypeId) (x : Operand) : VQ Γ ⟨dst, .convert e e2 x, ty, ps, af, g⟩ T L K = convVC Γ e e2 (ev T x) L K (YieldsQ Γ ⟨dst, .convert e e2 x, ty, ps, af, g⟩ T L K) := rfl
theorem VQ_call (f : Operand) (as : Array Operand) (ts : Array TypeId) : VQ Γ ⟨dst, .call ⟨.value f, as, ts⟩, ty, ps, af, g⟩ T L K = qcallVC Γ (ev T f) (as.map (ev T)) L K False := rfl
/-! one operation -/
theorem VC_alloc (e : TypeId) : VC Γ ⟨dst, .alloc e, ty, ps, af, g⟩ T L K2 = oM (zr Γ.P e) (fun z => ∀ b, stK (K2 (.pointer (some ⟨b, 0, none⟩)) (some (b, .cells z.toArray e (0, 0)) :: L)) ()) (Yields Γ ⟨dst, .alloc e, ty, ps, af, g⟩ T L K2) := by
  simp only [stK_e]
  unfold VC oM
  dsimp only
  cases zr Γ.P e <;> rfl
theorem VC_box (e : TypeId) (x : Operand) : VC Γ ⟨dst, .box e x, ty, ps, af, g⟩ T L K2 = boxVC (ev T x) e L K2 := rfl
theorem VC_store (e : TypeId) (x y : Operand) : VC Γ ⟨dst, .store e x y, ty, ps, af, g⟩ T L K2 = stVC Γ e (ev T x) (ev T y) L (K2 undef) False := rfl
theorem VC_buildSlice (e : TypeId) (len : Nat) (parts : List (Nat × Operand)) : VC Γ ⟨dst, .buildSlice e len parts.toArray, ty, ps, af, g⟩ T L K2 = bsVC Γ e len (evP T parts) parts.length L K2 (Yields Γ ⟨dst, .buildSlice e len parts.toArray, ty, ps, af, g⟩ T L K2) := by
  rw [← evP_map]
  unfold VC bsVC oM
  dsimp only
  cases elS Γ.P e <;> simp
theorem VC_makeSlice (e : TypeId) (x y : Operand) : VC Γ ⟨dst, .makeSlice e x y, ty, ps, af, g⟩ T L K2 = mkVC Γ e (ev T x) (ev T y) L K2 False := rfl
theorem VC_range (e : TypeId) (x : Operand) : VC Γ ⟨dst, .range e x, ty, ps, af, g⟩ T L K2 = rgVC Γ e (ev T x) L K2 False := rfl
theorem VC_next (x : Operand) : VC Γ ⟨dst, .next x true, ty, ps, af, g⟩ T L K2 = nxVC (ev T x) L K2 False := rfl
theorem VC_makeMap (e : TypeId) : VC Γ ⟨dst, .makeMap e none, ty, ps, af, g⟩ T L K2 = ∀ b, stK (K2 (.map (some b)) (some (b, .map #[] 0) :: L)) () := rfl
theorem VC_mapUpdate (e : TypeId) (m x y : Operand) : VC Γ ⟨dst, .mapUpdate e m x y, ty, ps, af, g⟩ T L K2 = muVC Γ e (ev T m) (ev T x) (ev T y) L (K2 undef) False := rfl
theorem VC_insert (e : TypeId) (m x y : Operand) : VC Γ ⟨dst, .insert e m x y, ty, ps, af, g⟩ T L K2 = muVC Γ e (ev T m) (ev T x) (ev T y) L (K2 undef) False := rfl
theorem VC_convert (e e2 : TypeId) (x : Operand) : VC Γ ⟨dst, .convert e e2 x, ty, ps, af, g⟩ T L K2 = cvVC Γ e e2 (ev T x) L K2 False (VQ Γ ⟨dst, .convert e e2 x, ty, ps, af, g⟩ T L (fun v => K2 v L)) := rfl
theorem VC_append (x y : Operand) (tx ty2 : TypeId) : VC Γ ⟨dst, .call ⟨.builtin .append, #[x, y], #[tx, ty2]⟩, ty, ps, af, g⟩ T L K2 = YAppend Γ tx ty2 (ev T x) (ev T y) L (fun v L => stK (K2 v L) ()) := rfl
theorem VC_copy (x y : Operand) (tx ty2 : TypeId) : VC Γ ⟨dst, .call ⟨.builtin .copy, #[x, y], #[tx, ty2]⟩, ty, ps, af, g⟩ T L K2 = YCopy Γ tx ty2 (ev T x) (ev T y) L (fun v L => stK (K2 v L) ()) := rfl
theorem VC_call (f : Operand) (as : Array Operand) (ts : Array TypeId) : VC Γ ⟨dst, .call ⟨.value f, as, ts⟩, ty, ps, af, g⟩ T L K2 = callVC Γ (ev T f) (as.map (ev T)) L K2 False := rfl
/-! the parts -/
theorem loadVC_e : loadVC Γ t L ad K = oM (szA Γ.P t) (fun p => if p.2 = true then loadN Γ L ad 0 p.1 [] (fun v => stK (K v) ()) else ∃ v, Cell Γ L ad v ∧ stK (K v) ()) False := by
  simp only [stK_e]
  unfold loadVC oM
  split <;> rename_i h <;> rw [h] <;> simp
theorem part_e (ag : Bool) (sz : Nat) (cs : Array Value) (off : Nat) : partVC ag sz cs off K = if ag = true then K (.agg (cs.toList.drop off |>.take sz).toArray) else oM (cs.toList[off]?) K False := by
  unfold partVC oM
  cases ag
  · cases h : cs.toList[off]? <;> simp
  · rfl
theorem fa_e (f : Nat) : faVC P t (.pointer (some ad)) f K D = oM (lay P t) (fun l => oM l[f]? (fun p => p.2.1 ≠ 0 ∧ K (.pointer (some (ad.add p.1)))) D) D := by
  unfold faVC oM
  cases lay P t with
  | none => rfl
  | some l => cases h : l[f]? <;> simp [h]
theorem field_e (cs : Array Value) (f : Nat) : fieldVC P t (.agg cs) f K D = oM (lay P t) (fun l => oM l[f]? (fun p => partVC p.2.2 p.2.1 cs p.1 K) D) D := by
  unfold fieldVC oM
  cases lay P t with
  | none => rfl
  | some l => cases h : l[f]? <;> simp [h]
theorem index_e (cs : Array Value) : indexVC P t (.agg cs) (.int k a) K D = oM (elA P t) (fun p => (0 ≤ a ∧ a < p.1) ∧ partVC p.2.2.2 p.2.2.1 cs (a.toNat * p.2.2.1) K) D := by
  unfold indexVC oM
  cases elA P t <;> rfl
theorem ext_e (vs : Array Value) (i : Nat) : extVC (.tuple vs) i K D = oM (vs.toList[i]?) K False := by
  unfold extVC oM
  dsimp only
  cases vs.toList[i]? <;> simp
theorem ia_some (len cap : Nat) : indexAddrVC P t (.slice (some ad) len cap) (.int k a) K D = oM (elS P t) (fun p => (0 ≤ a ∧ a < len) ∧ K (.pointer (some (ad.add (a.toNat * p.2.1))))) D := by
  unfold indexAddrVC oM
  cases elS P t <;> simp
theorem ia_any (base : Option Addr) (len cap : Nat) : indexAddrVC P t (.slice base len cap) (.int k a) K D = oM (elS P t) (fun p => (0 ≤ a ∧ a < len) ∧ ∃ ad, base = some ad ∧ stK (K (.pointer (some (ad.add (a.toNat * p.2.1))))) ()) D := by
  simp only [stK_e]
  unfold indexAddrVC oM
  cases elS P t <;> rfl
theorem ia_ptr : indexAddrVC P t (.pointer (some ad)) (.int k a) K D = oM (elA P t) (fun p => (0 ≤ a ∧ a < p.1) ∧ K (.pointer (some (ad.add (a.toNat * p.2.2.1))))) D := by
  unfold indexAddrVC oM
  cases elA P t <;> rfl
theorem conv_e : convVC Γ s d (.int k a) L K D = oM (Γ.P.underlying s) (fun _ => oM (Γ.P.underlying d) (fun u => intD u (fun k => K (.int k (k.wrap a))) D) D) D := by
  unfold convVC oM intD
  cases Γ.P.underlying s with
  | none => rfl
  | some x => cases hd : Γ.P.underlying d with
    | none => rfl
    | some y => cases y <;> rfl
theorem sl_str (st : ByteArray) (lo hi : Option Value) : sliceVC P t (.string st) lo hi none K D = oM (optI 0 lo) (fun l => oM (optI st.size hi) (fun h => strD (P.underlying t) ((0 ≤ l ∧ l ≤ h ∧ h ≤ st.size) ∧ K (.string (st.extract l.toNat h.toNat))) D) D) D := by
  unfold sliceVC oM strD
  dsimp only
  cases h1 : P.underlying t with
  | none => cases optI 0 lo <;> cases optI (↑st.size) hi <;> rfl
  | some u => cases u <;> cases optI 0 lo <;> cases optI (↑st.size) hi <;> rfl
theorem sl_sl (base : Option Addr) (len cap : Nat) (lo hi : Option Value) : sliceVC P t (.slice base len cap) lo hi none K D = oM (elS P t) (fun p => oM (optI 0 lo) (fun l => oM (optI len hi) (fun h => ((hi.isSome = true ∨ len ≤ cap) ∧ 0 ≤ l ∧ l ≤ h ∧ h ≤ cap) ∧ K (.slice (cutA base p.2.1 cap l.toNat) (h.toNat - l.toNat) (cap - l.toNat))) D) D) D := by
  unfold sliceVC oM
  dsimp only
  cases elS P t <;> cases optI 0 lo <;> cases optI (↑len) hi <;> rfl
theorem sl_arr0 (lo : Option Value) : sliceVC P t (.pointer (some ad)) lo none none K D = oM (elA P t) (fun p => oM (optI 0 lo) (fun l => (0 ≤ l ∧ l ≤ p.1) ∧ K (.slice (cutA (some ad) p.2.2.1 p.1 l.toNat) (p.1 - l.toNat) (p.1 - l.toNat))) D) D := by
  unfold sliceVC oM
  dsimp only
  cases elA P t <;> cases optI 0 lo <;> rfl
theorem sl_arr1 (lo : Option Value) (h : Int) : sliceVC P t (.pointer (some ad)) lo (some (.int k h)) none K D = oM (elA P t) (fun p => oM (optI 0 lo) (fun l => (0 ≤ l ∧ l ≤ h ∧ h ≤ p.1) ∧ K (.slice (cutA (some ad) p.2.2.1 p.1 l.toNat) (h.toNat - l.toNat) (p.1 - l.toNat))) D) D := by
  unfold sliceVC oM
  dsimp only
  cases elA P t <;> cases optI 0 lo <;> rfl
theorem build_e (parts : List (Nat × Value)) : buildVC P t parts K D = oM (lay P t) (fun l => oM (zr P t) (fun z => fillK (placeL l) z parts (fun cs => K (.agg cs.toArray)) D) D) (oM (elA P t) (fun p => oM (zr P t) (fun z => fillK (fun i => some (i * p.2.2.1, p.2.2.1)) z parts (fun cs => K (.agg cs.toArray)) D) D) D) := by
  unfold buildVC oM fillK
  cases h1 : lay P t with
  | none => cases h2 : elA P t with
    | none => cases zr P t <;> rfl
    | some p => cases h3 : zr P t with
      | none => rfl
      | some z => cases h4 : fillL (fun i => some (i * p.2.2.1, p.2.2.1)) z parts <;> simp [h4]
  | some l => cases h3 : zr P t with
    | none => cases h2 : elA P t <;> rfl
    | some z => cases h4 : fillL (placeL l) z parts <;> simp [h4]
theorem mk_e : mkVC Γ t (.int k a) (.int k' b) L K2 D = oM (elS Γ.P t) (fun p => oM (zr Γ.P p.1) (fun z => (0 ≤ a ∧ a ≤ b ∧ b * p.2.2 ≤ 281474976710656 ∧ b ≤ 9223372036854775807 ∧ z.length = p.2.1) ∧ ∀ bk, stK (K2 (.slice (some ⟨bk, 0, none⟩) a.toNat b.toNat) (some (bk, .cells (zerosV z b.toNat).toArray p.1 (0, 0)) :: L)) ()) D) D := by
  simp only [stK_e]
  unfold mkVC oM
  cases h : elS Γ.P t with
  | none => rfl
  | some p => cases h2 : zr Γ.P p.1 <;> simp [h2]
theorem cv_e (s d : TypeId) (str : ByteArray) : cvVC Γ s d (.string str) L K2 D D2 = oM (Γ.P.underlying s) (fun _ => oM (Γ.P.underlying d) (fun u => cvD u Γ.P str L K2 D) D) D := by
  unfold cvVC oM cvD
  cases Γ.P.underlying s with
  | none => rfl
  | some x => cases hd : Γ.P.underlying d with
    | none => rfl
    | some y => cases y <;> rfl
end
section
variable {Γ : Ctx} {P : Program} {n : Nat} {ops : Array Oper} {T : Env} {L : Hp} {t : TypeId} {k : IntKind} {a : Int} {K : Value → Prop} {K2 : Value → Hp → Prop} {K3 : Hp → Prop} {D : Prop} {ad : Addr}
theorem ops_nil {Q : Env → Hp → Prop} : VCops Γ n ops [] Q T L = Q T L := rfl
theorem ops_cons {Q : Env → Hp → Prop} (o : Oper) (r : List Oper) : VCops Γ n ops (o :: r) Q T L = guardVC ops o.guard T (fun T => VC Γ o T L (fun v L => putVC n o.dst v T (fun T => VCops Γ n ops r Q T L))) (fun T => putVC n o.dst undef T (fun T => VCops Γ n ops r Q T L)) := rfl
theorem qops_nil {Q : Env → Prop} : VQops Γ n ops L [] Q T = Q T := rfl
theorem qops_cons {Q : Env → Prop} (o : Oper) (r : List Oper) : VQops Γ n ops L (o :: r) Q T = guardVC ops o.guard T (fun T => VQ Γ o T L (fun v => putVC n o.dst v T (fun T => VQops Γ n ops L r Q T))) (fun T => putVC n o.dst undef T (fun T => VQops Γ n ops L r Q T)) := rfl
theorem ld_e : ldVC Γ t (.pointer (some ad)) L K D = loadVC Γ t L ad K := rfl
theorem st_e (v : Value) : stVC Γ t (.pointer (some ad)) v L K3 D = storeVC Γ t ad v L K3 := rfl
theorem call_e (f : FuncId) (fi ca as : Array Value) : callVC Γ (.func (.func f) fi ca) as L K2 D = (callable Γ.P f = true ∧ SCall Γ f ((fi ++ as ++ ca)) L (fun v L => stK (K2 v L) ())) := rfl
theorem qcall_e (f : FuncId) (fi ca as : Array Value) : qcallVC Γ (.func (.func f) fi ca) as L K D = (callable Γ.P f = true ∧ ∃ v, SCall Γ f ((fi ++ as ++ ca)) L (fun v' L' => v' = v ∧ L' = L) ∧ stK (K v) ()) := rfl
theorem eqla_e {k : TypeId} (x y : Array Value) : binVC P .eql k (.agg x) (.agg y) K D = aggEq P k x y (fun r => stK (K (.bool r)) ()) := rfl
theorem neqa_e {k : TypeId} (x y : Array Value) : binVC P .neq k (.agg x) (.agg y) K D = aggEq P k x y (fun r => stK (K (.bool (!r))) ()) := rfl
theorem rg_e (s : ByteArray) : rgVC Γ t (.string s) L K2 D = (Γ.P.underlying t = some .string ∧ ∀ b, stK (K2 (.pointer (some ⟨b, 0, none⟩)) (some (b, .stringIter s 0) :: L)) ()) := rfl
theorem nx_e (b : Nat) : nxVC (.pointer (some ⟨b, 0, none⟩)) L K2 D = ∃ (i : Nat) (s : ByteArray) (pos : Nat), L[i]? = some (some (b, .stringIter s pos)) ∧
      if pos < s.size then stK (K2 (.tuple #[.bool true, .int .i64 pos, .int .i32 (Utf8.decode s pos).1]) (L.set i (some (b, .stringIter s (pos + (Utf8.decode s pos).2))))) () else stK (K2 (.tuple #[.bool false]) L) () := rfl
theorem mu_e (r : Nat) (x y : Value) : muVC Γ t (.map (some r)) x y L K3 D = ∃ kd z, mapT Γ.P t = some (kd, z) ∧ ∃ (i : Nat) (es : List MapEntry) (ck : Nat), L[i]? = some (some (r, .map es.toArray ck)) ∧ ∃ fr, Instr.findNow kd x es 0 = some fr ∧ stK (K3 (L.set i (some (r, mapPut es ck x y fr)))) () := rfl
theorem istr_e (s : ByteArray) : indexVC P t (.string s) (.int k a) K D = (P.underlying t = some .string ∧ 0 ≤ a ∧ ∃ b : UInt8, s.data.toList[a.toNat]? = some b ∧ stK (K (.int .u8 (b.toNat : Int))) ()) := rfl
theorem store_e {t : TypeId} {v : Value} : storeVC Γ t ad v L K3 = ((szA Γ.P t).map (·.1) = some v.cells.size ∧ oneB v.cells.toList = true ∧ ad.spot = none ∧
  ∃ (i : Nat) (cs : List Value) (t' : TypeId) (fr : Nat × Nat), L[i]? = some (some (ad.block, .cells cs.toArray t' fr)) ∧ ad.off + v.cells.size ≤ cs.length ∧ (ad.off + v.cells.size ≤ fr.1 ∨ fr.2 ≤ ad.off) ∧
    stK (K3 (L.set i (some (ad.block, .cells (setN cs ad.off v.cells.toList).toArray t' fr)))) ()) := rfl
end
section
variable {Γ : Ctx} {n : Nat} {Q : Exit → Env → Hp → Prop} {T : Env} {L : Hp}
/-- Where the operations of a region put what they yield. -/
def Dsts (ops : Array Oper) (ds : List (Option Tmp)) : Prop := ∀ j : Nat, (ops.toList[j]?).bind (fun o : Oper => o.dst) = (ds[j]?).bind id
theorem dsts_of {l : List Oper} {ds : List (Option Tmp)} (h : l.map (fun o : Oper => o.dst) = ds) : Dsts l.toArray ds := fun j => by
  subst h
  show (l[j]?).bind _ = _
  rw [List.getElem?_map]
  cases l[j]? <;> rfl
theorem SX.region_d {id : Nat} {l : List Oper} (ds : List (Option Tmp)) (hd : l.map (fun o : Oper => o.dst) = ds) (h : ∀ ops : Array Oper, Dsts ops ds → VCops Γ n ops l (Q .normal) T L) : SX Γ n (.region id l.toArray false) Q T L := SX.region (h _ (dsts_of hd))
theorem SX.region_xd {id : Nat} {l : List Oper} (ds : List (Option Tmp)) (hd : l.map (fun o : Oper => o.dst) = ds) (h : ∀ ops : Array Oper, Dsts ops ds → RX Γ n ops l Q T L) : SX Γ n (.region id l.toArray false) Q T L := SX.region_x (h _ (dsts_of hd))
theorem SX.quiet_d {id : Nat} {l : List Oper} (hm : Γ.P.follows .mixedOrders = true) (hB : Region.lexB .any l.toArray = true) (ds : List (Option Tmp)) (hd : l.map (fun o : Oper => o.dst) = ds) (h : ∀ ops : Array Oper, Dsts ops ds → VQops Γ n ops L l (fun T => Q .normal T L) T) : SX Γ n (.region id l.toArray true) Q T L := SX.quiet hm hB (h _ (dsts_of hd))
theorem SX.quiet_xd {id : Nat} {l : List Oper} (hm : Γ.P.follows .mixedOrders = true) (hB : Region.lexB .any l.toArray = true) (ds : List (Option Tmp)) (hd : l.map (fun o : Oper => o.dst) = ds) (h : ∀ ops : Array Oper, Dsts ops ds → QX Γ n ops l L (fun T => Q .normal T L) T) : SX Γ n (.region id l.toArray true) Q T L := SX.quiet_x hm hB (h _ (dsts_of hd))
theorem SX.drawn_d {id : Nat} {l : List Oper} (pl : List (Nat × Kd)) (G : Hp → Hp) (hm : Γ.P.follows .mixedOrders = true) (hB : planB l.toArray pl = true) (hG : Less L (G L)) (ds : List (Option Tmp)) (hd : l.map (fun o : Oper => o.dst) = ds)
    (h : ∀ ops : Array Oper, Dsts ops ds → (∀ k : Nat, ops.toList[k]? = l[k]?) → VCplan Γ n ops G pl (Q .normal) T L) : SX Γ n (.region id l.toArray true) Q T L := SX.drawn pl G hm hB hG (h _ (dsts_of hd) fun _ => rfl)
end
/-- A mark: what it hangs on is left as it is. -/
abbrev Dk {α : Sort u} (_ : α) : Type := Unit
def VCplanH (Γ : Ctx) (n : Nat) (ops : Array Oper) (G : (Hp → Hp)) (pl : List (Nat × Kd)) (K : (Env → Hp → Prop)) (T : Env) (L : Hp) (_ : Dk ops) (_ : Dk G) (_ : Dk K) (_ : Dk T) (_ : Dk L) : Prop := VCplan Γ n ops G pl K T L
def VCopsH (Γ : Ctx) (n : Nat) (ops : Array Oper) (l : List Oper) (K : (Env → Hp → Prop)) (T : Env) (L : Hp) (_ : Dk ops) (_ : Dk l) (_ : Dk K) (_ : Dk T) (_ : Dk L) : Prop := VCops Γ n ops l K T L
def VQopsH (Γ : Ctx) (n : Nat) (ops : Array Oper) (L : Hp) (l : List Oper) (K : (Env → Prop)) (T : Env) (_ : Dk ops) (_ : Dk L) (_ : Dk l) (_ : Dk K) (_ : Dk T) : Prop := VQops Γ n ops L l K T
def guardVCH (ops : Array Oper) (g : Option (Nat × Bool)) (T : Env) (yes : (Env → Prop)) (no : (Env → Prop)) (_ : Dk ops) (_ : Dk T) (_ : Dk yes) (_ : Dk no) : Prop := guardVC ops g T yes no
def putVCH (n : Nat) (d : Option Tmp) (v : Value) (T : Env) (k : (Env → Prop)) (_ : Dk T) (_ : Dk k) : Prop := putVC n d v T k
def VCH (Γ : Ctx) (o : Oper) (T : Env) (L : Hp) (K : (Value → Hp → Prop)) (_ : Dk o) (_ : Dk T) (_ : Dk L) (_ : Dk K) : Prop := VC Γ o T L K
def VQH (Γ : Ctx) (o : Oper) (T : Env) (L : Hp) (K : (Value → Prop)) (_ : Dk o) (_ : Dk T) (_ : Dk L) (_ : Dk K) : Prop := VQ Γ o T L K
def binVCH (P : Program) (op : BinOp) (t : TypeId) (x : Value) (y : Value) (K : (Value → Prop)) (D : Prop) (_ : Dk K) (_ : Dk D) : Prop := binVC P op t x y K D
def unVCH (op : UnOp) (x : Value) (K : (Value → Prop)) (D : Prop) (_ : Dk K) (_ : Dk D) : Prop := unVC op x K D
def convVCH (Γ : Ctx) (s : TypeId) (d : TypeId) (x : Value) (L : Hp) (K : (Value → Prop)) (D : Prop) (_ : Dk L) (_ : Dk K) (_ : Dk D) : Prop := convVC Γ s d x L K D
def sliceVCH (P : Program) (t : TypeId) (x : Value) (lo : Option Value) (hi : Option Value) (mx : Option Value) (K : (Value → Prop)) (D : Prop) (_ : Dk K) (_ : Dk D) : Prop := sliceVC P t x lo hi mx K D
def partVCH (ag : Bool) (sz : Nat) (cs : Array Value) (off : Nat) (K : (Value → Prop)) (_ : Dk K) : Prop := partVC ag sz cs off K
def fieldVCH (P : Program) (t : TypeId) (x : Value) (f : Nat) (K : (Value → Prop)) (D : Prop) (_ : Dk K) (_ : Dk D) : Prop := fieldVC P t x f K D
def indexVCH (P : Program) (t : TypeId) (x : Value) (i : Value) (K : (Value → Prop)) (D : Prop) (_ : Dk K) (_ : Dk D) : Prop := indexVC P t x i K D
def indexAddrVCH (P : Program) (t : TypeId) (x : Value) (i : Value) (K : (Value → Prop)) (D : Prop) (_ : Dk K) (_ : Dk D) : Prop := indexAddrVC P t x i K D
def buildVCH (P : Program) (t : TypeId) (parts : List (Nat × Value)) (K : (Value → Prop)) (D : Prop) (_ : Dk K) (_ : Dk D) : Prop := buildVC P t parts K D
def lenVCH (P : Program) (ty : TypeId) (x : Value) (K : (Value → Prop)) (D : Prop) (_ : Dk K) (_ : Dk D) : Prop := lenVC P ty x K D
def capVCH (P : Program) (ty : TypeId) (x : Value) (K : (Value → Prop)) (D : Prop) (_ : Dk K) (_ : Dk D) : Prop := capVC P ty x K D
def pickVCH (v : Value) (x : Value) (y : Value) (K : (Value → Prop)) (D : Prop) (_ : Dk K) (_ : Dk D) : Prop := pickVC v x y K D
def ldVCH (Γ : Ctx) (t : TypeId) (v : Value) (L : Hp) (K : (Value → Prop)) (D : Prop) (_ : Dk L) (_ : Dk K) (_ : Dk D) : Prop := ldVC Γ t v L K D
def loadVCH (Γ : Ctx) (t : TypeId) (L : Hp) (a : Addr) (K : (Value → Prop)) (_ : Dk L) (_ : Dk K) : Prop := loadVC Γ t L a K
def loadNH (Γ : Ctx) (L : Hp) (a : Addr) (i : Nat) (k : Nat) (acc : List Value) (K : (Value → Prop)) (_ : Dk L) (_ : Dk K) : Prop := loadN Γ L a i k acc K
def nilVCH (v : Value) (K : (Value → Prop)) (D : Prop) (_ : Dk K) (_ : Dk D) : Prop := nilVC v K D
def faVCH (P : Program) (t : TypeId) (v : Value) (f : Nat) (K : (Value → Prop)) (D : Prop) (_ : Dk K) (_ : Dk D) : Prop := faVC P t v f K D
def extVCH (v : Value) (i : Nat) (K : (Value → Prop)) (D : Prop) (_ : Dk K) (_ : Dk D) : Prop := extVC v i K D
def minVCH (x : Value) (y : Value) (K : (Value → Prop)) (D : Prop) (_ : Dk K) (_ : Dk D) : Prop := minVC x y K D
def maxVCH (x : Value) (y : Value) (K : (Value → Prop)) (D : Prop) (_ : Dk K) (_ : Dk D) : Prop := maxVC x y K D
def qcallVCH (Γ : Ctx) (f : Value) (args : Array Value) (L : Hp) (K : (Value → Prop)) (D : Prop) (_ : Dk L) (_ : Dk K) (_ : Dk D) : Prop := qcallVC Γ f args L K D
def lkVCH (Γ : Ctx) (t : TypeId) (x : Value) (k : Value) (ok : Bool) (L : Hp) (K : (Value → Prop)) (D : Prop) (_ : Dk L) (_ : Dk K) (_ : Dk D) : Prop := lkVC Γ t x k ok L K D
def fndKH (z : Option Value) (ok : Bool) (fr : Option (Nat × Value)) (K : (Value → Prop)) (_ : Dk K) : Prop := fndK z ok fr K
def aggEqH (P : Program) (t : TypeId) (a : Array Value) (b : Array Value) (K : (Bool → Prop)) (_ : Dk K) : Prop := aggEq P t a b K
def storeVCH (Γ : Ctx) (t : TypeId) (a : Addr) (v : Value) (L : Hp) (K : (Hp → Prop)) (_ : Dk L) (_ : Dk K) : Prop := storeVC Γ t a v L K
def stVCH (Γ : Ctx) (t : TypeId) (p : Value) (v : Value) (L : Hp) (K : (Hp → Prop)) (D : Prop) (_ : Dk L) (_ : Dk K) (_ : Dk D) : Prop := stVC Γ t p v L K D
def mkVCH (Γ : Ctx) (t : TypeId) (l : Value) (c : Value) (L : Hp) (K : (Value → Hp → Prop)) (D : Prop) (_ : Dk L) (_ : Dk K) (_ : Dk D) : Prop := mkVC Γ t l c L K D
def cvVCH (Γ : Ctx) (s : TypeId) (d : TypeId) (v : Value) (L : Hp) (K : (Value → Hp → Prop)) (D1 : Prop) (D2 : Prop) (_ : Dk L) (_ : Dk K) (_ : Dk D1) (_ : Dk D2) : Prop := cvVC Γ s d v L K D1 D2
def callVCH (Γ : Ctx) (f : Value) (args : Array Value) (L : Hp) (K : (Value → Hp → Prop)) (D : Prop) (_ : Dk L) (_ : Dk K) (_ : Dk D) : Prop := callVC Γ f args L K D
def rgVCH (Γ : Ctx) (t : TypeId) (x : Value) (L : Hp) (K : (Value → Hp → Prop)) (D : Prop) (_ : Dk L) (_ : Dk K) (_ : Dk D) : Prop := rgVC Γ t x L K D
def nxVCH (x : Value) (L : Hp) (K : (Value → Hp → Prop)) (D : Prop) (_ : Dk L) (_ : Dk K) (_ : Dk D) : Prop := nxVC x L K D
def muVCH (Γ : Ctx) (t : TypeId) (m : Value) (k : Value) (v : Value) (L : Hp) (K : (Hp → Prop)) (D : Prop) (_ : Dk L) (_ : Dk K) (_ : Dk D) : Prop := muVC Γ t m k v L K D
def boxVCH (v : Value) (t : TypeId) (L : Hp) (K : (Value → Hp → Prop)) (_ : Dk L) (_ : Dk K) : Prop := boxVC v t L K
def bsVCH (Γ : Ctx) (t : TypeId) (len : Nat) (parts : List (Nat × Value)) (size : Nat) (L : Hp) (K : (Value → Hp → Prop)) (D : Prop) (_ : Dk L) (_ : Dk K) (_ : Dk D) : Prop := bsVC Γ t len parts size L K D
def strDH (o : Option TypeDesc) (Y : Prop) (D : Prop) (_ : Dk Y) (_ : Dk D) : Prop := strD o Y D
def intDH (o : TypeDesc) (K : (IntKind → Prop)) (D : Prop) (_ : Dk K) (_ : Dk D) : Prop := intD o K D
def cvDH (u : TypeDesc) (P : Program) (str : ByteArray) (L : Hp) (K2 : (Value → Hp → Prop)) (D : Prop) (_ : Dk L) (_ : Dk K2) (_ : Dk D) : Prop := cvD u P str L K2 D
def fillKH (place : (Nat → Option (Nat × Nat))) (cells : List Value) (parts : List (Nat × Value)) (K : (List Value → Prop)) (D : Prop) (_ : Dk K) (_ : Dk D) : Prop := fillK place cells parts K D
def gBH (v : Value) (want : Bool) (Y : Prop) (N : Prop) (F : Prop) (_ : Dk Y) (_ : Dk N) (_ : Dk F) : Prop := gB v want Y N F
def oMH {α : Type} (o : Option α) (s : (α → Prop)) (n : Prop) (_ : Dk s) (_ : Dk n) : Prop := oM o s n
def VCopsV (Γ : Ctx) (n : Nat) (ops : Array Oper) (l : List Oper) (K : Env → Hp → Prop) (T : Env) (L : Hp) (_ : Dk ops) (_ : Dk K) (_ : Dk T) (_ : Dk L) : Prop := VCops Γ n ops l K T L
def VQopsV (Γ : Ctx) (n : Nat) (ops : Array Oper) (L : Hp) (l : List Oper) (K : Env → Prop) (T : Env) (_ : Dk ops) (_ : Dk L) (_ : Dk K) (_ : Dk T) : Prop := VQops Γ n ops L l K T
section
variable {Γ : Ctx} {P : Program} {n : Nat} {ops : Array Oper} {T : Env} {L : Hp} {t s d : TypeId} {k k' : IntKind} {a b : Int} {D D2 : Prop} {ad : Addr}
variable {K : Value → Prop} {K2 : Value → Hp → Prop} {K3 : Hp → Prop} {yes no : Env → Prop} {dst : Option Tmp} {ty : TypeId} {ps : String} {af : Array Edge} {g : Option (Nat × Bool)}
theorem oM_someH {α : Type} (a : α) (s : α → Prop) (n : Prop) : oMH (some a) s n () () = s a := oM_some a s n
theorem oM_noneH {α : Type} (s : α → Prop) (n : Prop) : oMH none s n () () = n := oM_none s n
theorem gB_boolH (b want : Bool) (Y N F : Prop) : gBH (.bool b) want Y N F () () () = if b = want then Y else N := gB_bool b want Y N F
theorem strD_stringH (Y D : Prop) : strDH (some .string) Y D () () = Y := strD_string Y D
theorem box_eH (v : Value) (t : TypeId) (L : Hp) (K : Value → Hp → Prop) : boxVCH v t L K () () = ∀ b, stK (K (.pointer (some ⟨b, 0, none⟩)) (some (b, .cells v.cells t (0, 0)) :: L)) () := box_e v t L K
theorem bs_eH (Γ : Ctx) (t : TypeId) (len : Nat) (parts : List (Nat × Value)) (size : Nat) (L : Hp) (K : Value → Hp → Prop) (D : Prop) : bsVCH Γ t len parts size L K D () () () = oMH (elS Γ.P t) (fun p => (inOrd p.2.1 0 parts = true ∧ size = len ∧ len * p.2.1 ≤ 16777216 ∧ (zr Γ.P p.1).map List.length = some p.2.1) ∧ ∀ b, stK (K (.slice (some ⟨b, 0, none⟩) len len) (some (b, .cells (catV parts).toArray p.1 (0, 0)) :: L)) ()) D () () := bs_e Γ t len parts size L K D
theorem cvD_sliceH (e : TypeId) (P : Program) (str : ByteArray) (L : Hp) (K2 : Value → Hp → Prop) (D : Prop) : cvDH (.slice e) P str L K2 D () () () = (P.underlying e = some (.int .u8) ∧ ∀ b cap, str.size ≤ cap → stK (K2 (.slice (some ⟨b, 0, none⟩) str.size cap) (some (b, .cells (bytesV str ++ List.replicate (cap - str.size) (Value.int .u8 0)).toArray e (cap, cap + 1)) :: L)) ()) := cvD_slice e P str L K2 D
theorem cvD_stringH (P : Program) (str : ByteArray) (L : Hp) (K2 : Value → Hp → Prop) (D : Prop) : cvDH .string P str L K2 D () () () = K2 (.string str) L := cvD_string P str L K2 D
theorem fillK_nilH (place : Nat → Option (Nat × Nat)) (cells : List Value) (K : List Value → Prop) (D : Prop) : fillKH place cells [] K D () () = K cells := fillK_nil place cells K D
theorem fillK_consH (place : Nat → Option (Nat × Nat)) (cells : List Value) (i : Nat) (v : Value) (rest : List (Nat × Value)) (K : List Value → Prop) (D : Prop) : fillKH place cells ((i, v) :: rest) K D () () = oMH (place i) (fun p => if v.cells.size = p.2 ∧ p.1 + p.2 ≤ cells.length then fillKH place (setN cells p.1 v.cells.toList) rest K D () () else D) D () () := fillK_cons place cells i v rest K D
theorem intD_intH (k : IntKind) (K : IntKind → Prop) (D : Prop) : intDH (.int k) K D () () = K k := intD_int k K D
theorem guard_noneH : guardVCH ops none T yes no () () () () = yes T := guard_none 
theorem guard_someH (j : Nat) (want : Bool) : guardVCH ops (some (j, want)) T yes no () () () () = oMH ((ops.toList[j]?).bind (·.dst)) (fun d => gBH (T d) want (yes (upd T d (.bool want))) (no (upd T d (.bool (!want)))) (no T) () () ()) (no T) () () := guard_some j want
theorem put_noneH (v : Value) (k : Env → Prop) : putVCH n none v T k () () = k T := put_none v k
theorem put_someH (d : Nat) (v : Value) (k : Env → Prop) : putVCH n (some d) v T k () () = (d < n ∧ k (upd T d v)) := put_some d v k
theorem plan_nilH {G : Hp → Hp} {Q : Env → Hp → Prop} : VCplanH Γ n ops G [] Q T L () () () () () = Q T L := plan_nil 
theorem plan_qH {G : Hp → Hp} {Q : Env → Hp → Prop} (i : Nat) (r : List (Nat × Kd)) : VCplanH Γ n ops G ((i, .q) :: r) Q T L () () () () () = oMH (ops.toList[i]?) (fun o => guardVCH ops o.guard T (fun T => VQH Γ o T (G L) (fun v => putVCH n o.dst v T (fun T => VCplanH Γ n ops G r Q T L () () () () ()) () ()) () () () ()) (fun T => putVCH n o.dst undef T (fun T => VCplanH Γ n ops G r Q T L () () () () ()) () ()) () () () ()) False () () := plan_q i r
theorem plan_cH {G : Hp → Hp} {Q : Env → Hp → Prop} (i : Nat) (r : List (Nat × Kd)) : VCplanH Γ n ops G ((i, .c) :: r) Q T L () () () () () = oMH (ops.toList[i]?) (fun o => guardVCH ops o.guard T (fun T => ∃ v, (∀ L0, Less L0 (G L) → VCH Γ o T L0 (fun u L1 => u = v ∧ L1 = L0) () () () ()) ∧ putVCH n o.dst v T (fun T => VCplanH Γ n ops G r Q T L () () () () ()) () ()) (fun T => putVCH n o.dst undef T (fun T => VCplanH Γ n ops G r Q T L () () () () ()) () ()) () () () ()) False () () := plan_c i r
theorem plan_eH {G : Hp → Hp} {Q : Env → Hp → Prop} (i : Nat) (r : List (Nat × Kd)) : VCplanH Γ n ops G ((i, .e) :: r) Q T L () () () () () = oMH (ops.toList[i]?) (fun o => guardVCH ops o.guard T (fun T => VCH Γ o T L (fun v L' => putVCH n o.dst v T (fun T => (Less L' (G L') ∧ Less (G L') (G L)) ∧ VCplanH Γ n ops G r Q T L' () () () () ()) () ()) () () () ()) (fun T => putVCH n o.dst undef T (fun T => VCplanH Γ n ops G r Q T L () () () () ()) () ()) () () () ()) False () () := plan_e i r
theorem plan_tH {G : Hp → Hp} {Q : Env → Hp → Prop} (i : Nat) (r : List (Nat × Kd)) : VCplanH Γ n ops G ((i, .t) :: r) Q T L () () () () () = oMH (ops.toList[i]?) (fun o => guardVCH ops o.guard T (fun T => VCH Γ o T L (fun v L' => putVCH n o.dst v T (fun T => VCplanH Γ n ops G r Q T L' () () () () ()) () ()) () () () ()) (fun T => putVCH n o.dst undef T (fun T => VCplanH Γ n ops G r Q T L () () () () ()) () ()) () () () ()) False () () := plan_t i r
theorem VQ_moveH (x : Operand) : VQH Γ ⟨dst, .move x, ty, ps, af, g⟩ T L K () () () () = K (ev T x) := VQ_move x
theorem VC_moveH (x : Operand) : VCH Γ ⟨dst, .move x, ty, ps, af, g⟩ T L K2 () () () () = (fun v => K2 v L) (ev T x) := VC_move x
theorem VQ_assignH (x : Operand) : VQH Γ ⟨dst, .assign x, ty, ps, af, g⟩ T L K () () () () = K (ev T x) := VQ_assign x
theorem VC_assignH (x : Operand) : VCH Γ ⟨dst, .assign x, ty, ps, af, g⟩ T L K2 () () () () = (fun v => K2 v L) (ev T x) := VC_assign x
theorem VQ_pickH (c x y : Operand) : VQH Γ ⟨dst, .pick c x y, ty, ps, af, g⟩ T L K () () () () = pickVCH (ev T c) (ev T x) (ev T y) K False () () := VQ_pick c x y
theorem VC_pickH (c x y : Operand) : VCH Γ ⟨dst, .pick c x y, ty, ps, af, g⟩ T L K2 () () () () = pickVCH (ev T c) (ev T x) (ev T y) (fun v => K2 v L) False () () := VC_pick c x y
theorem VQ_loadH (e : TypeId) (x : Operand) : VQH Γ ⟨dst, .load e x, ty, ps, af, g⟩ T L K () () () () = ldVCH Γ e (ev T x) L K False () () () := VQ_load e x
theorem VC_loadH (e : TypeId) (x : Operand) : VCH Γ ⟨dst, .load e x, ty, ps, af, g⟩ T L K2 () () () () = ldVCH Γ e (ev T x) L (fun v => K2 v L) False () () () := VC_load e x
theorem VQ_nilCheckH (x : Operand) : VQH Γ ⟨dst, .nilCheck x, ty, ps, af, g⟩ T L K () () () () = nilVCH (ev T x) K False () () := VQ_nilCheck x
theorem VC_nilCheckH (x : Operand) : VCH Γ ⟨dst, .nilCheck x, ty, ps, af, g⟩ T L K2 () () () () = nilVCH (ev T x) (fun v => K2 v L) False () () := VC_nilCheck x
theorem VQ_unOpH (op : UnOp) (e : TypeId) (x : Operand) : VQH Γ ⟨dst, .unOp op e x, ty, ps, af, g⟩ T L K () () () () = unVCH op (ev T x) K False () () := VQ_unOp op e x
theorem VC_unOpH (op : UnOp) (e : TypeId) (x : Operand) : VCH Γ ⟨dst, .unOp op e x, ty, ps, af, g⟩ T L K2 () () () () = unVCH op (ev T x) (fun v => K2 v L) False () () := VC_unOp op e x
theorem VQ_binOpH (op : BinOp) (e e2 : TypeId) (x y : Operand) : VQH Γ ⟨dst, .binOp op e x y e2, ty, ps, af, g⟩ T L K () () () () = binVCH Γ.P op e (ev T x) (ev T y) K (YieldsQ Γ ⟨dst, .binOp op e x y e2, ty, ps, af, g⟩ T L K) () () := VQ_binOp op e e2 x y
theorem VC_binOpH (op : BinOp) (e e2 : TypeId) (x y : Operand) : VCH Γ ⟨dst, .binOp op e x y e2, ty, ps, af, g⟩ T L K2 () () () () = binVCH Γ.P op e (ev T x) (ev T y) (fun v => K2 v L) (YieldsQ Γ ⟨dst, .binOp op e x y e2, ty, ps, af, g⟩ T L (fun v => K2 v L)) () () := VC_binOp op e e2 x y
theorem VQ_makeFuncH (fn : Fn) (x y : Array Operand) : VQH Γ ⟨dst, .makeFunc fn x y, ty, ps, af, g⟩ T L K () () () () = K (.func fn (x.map (ev T)) (y.map (ev T))) := VQ_makeFunc fn x y
theorem VC_makeFuncH (fn : Fn) (x y : Array Operand) : VCH Γ ⟨dst, .makeFunc fn x y, ty, ps, af, g⟩ T L K2 () () () () = (fun v => K2 v L) (.func fn (x.map (ev T)) (y.map (ev T))) := VC_makeFunc fn x y
theorem VQ_fieldAddrH (e : TypeId) (x : Operand) (f : Nat) : VQH Γ ⟨dst, .fieldAddr e x f, ty, ps, af, g⟩ T L K () () () () = faVCH Γ.P e (ev T x) f K False () () := VQ_fieldAddr e x f
theorem VC_fieldAddrH (e : TypeId) (x : Operand) (f : Nat) : VCH Γ ⟨dst, .fieldAddr e x f, ty, ps, af, g⟩ T L K2 () () () () = faVCH Γ.P e (ev T x) f (fun v => K2 v L) False () () := VC_fieldAddr e x f
theorem VQ_fieldH (e : TypeId) (x : Operand) (f : Nat) : VQH Γ ⟨dst, .field e x f, ty, ps, af, g⟩ T L K () () () () = fieldVCH Γ.P e (ev T x) f K False () () := VQ_field e x f
theorem VC_fieldH (e : TypeId) (x : Operand) (f : Nat) : VCH Γ ⟨dst, .field e x f, ty, ps, af, g⟩ T L K2 () () () () = fieldVCH Γ.P e (ev T x) f (fun v => K2 v L) False () () := VC_field e x f
theorem VQ_indexAddrH (e : TypeId) (x y : Operand) : VQH Γ ⟨dst, .indexAddr e x y, ty, ps, af, g⟩ T L K () () () () = indexAddrVCH Γ.P e (ev T x) (ev T y) K False () () := VQ_indexAddr e x y
theorem VC_indexAddrH (e : TypeId) (x y : Operand) : VCH Γ ⟨dst, .indexAddr e x y, ty, ps, af, g⟩ T L K2 () () () () = indexAddrVCH Γ.P e (ev T x) (ev T y) (fun v => K2 v L) False () () := VC_indexAddr e x y
theorem VQ_indexH (e : TypeId) (x y : Operand) : VQH Γ ⟨dst, .index e x y, ty, ps, af, g⟩ T L K () () () () = indexVCH Γ.P e (ev T x) (ev T y) K False () () := VQ_index e x y
theorem VC_indexH (e : TypeId) (x y : Operand) : VCH Γ ⟨dst, .index e x y, ty, ps, af, g⟩ T L K2 () () () () = indexVCH Γ.P e (ev T x) (ev T y) (fun v => K2 v L) False () () := VC_index e x y
theorem VQ_sliceH (e : TypeId) (x : Operand) (lo hi mx : Option Operand) : VQH Γ ⟨dst, .slice e x lo hi mx, ty, ps, af, g⟩ T L K () () () () = sliceVCH Γ.P e (ev T x) (lo.map (ev T)) (hi.map (ev T)) (mx.map (ev T)) K False () () := VQ_slice e x lo hi mx
theorem VC_sliceH (e : TypeId) (x : Operand) (lo hi mx : Option Operand) : VCH Γ ⟨dst, .slice e x lo hi mx, ty, ps, af, g⟩ T L K2 () () () () = sliceVCH Γ.P e (ev T x) (lo.map (ev T)) (hi.map (ev T)) (mx.map (ev T)) (fun v => K2 v L) False () () := VC_slice e x lo hi mx
theorem VQ_extractH (x : Operand) (i : Nat) : VQH Γ ⟨dst, .extract x i, ty, ps, af, g⟩ T L K () () () () = extVCH (ev T x) i K False () () := VQ_extract x i
theorem VC_extractH (x : Operand) (i : Nat) : VCH Γ ⟨dst, .extract x i, ty, ps, af, g⟩ T L K2 () () () () = extVCH (ev T x) i (fun v => K2 v L) False () () := VC_extract x i
theorem VQ_buildH (e : TypeId) (parts : List (Nat × Operand)) : VQH Γ ⟨dst, .build e parts.toArray, ty, ps, af, g⟩ T L K () () () () = buildVCH Γ.P e (evP T parts) K False () () := VQ_build e parts
theorem VC_buildH (e : TypeId) (parts : List (Nat × Operand)) : VCH Γ ⟨dst, .build e parts.toArray, ty, ps, af, g⟩ T L K2 () () () () = buildVCH Γ.P e (evP T parts) (fun v => K2 v L) False () () := VC_build e parts
theorem VQ_lookupH (e : TypeId) (x y : Operand) (ok : Bool) : VQH Γ ⟨dst, .lookup e x y ok, ty, ps, af, g⟩ T L K () () () () = lkVCH Γ e (ev T x) (ev T y) ok L K False () () () := VQ_lookup e x y ok
theorem VC_lookupH (e : TypeId) (x y : Operand) (ok : Bool) : VCH Γ ⟨dst, .lookup e x y ok, ty, ps, af, g⟩ T L K2 () () () () = lkVCH Γ e (ev T x) (ev T y) ok L (fun v => K2 v L) False () () () := VC_lookup e x y ok
theorem VQ_lenH (x : Operand) (e : TypeId) : VQH Γ ⟨dst, .call ⟨.builtin .len, #[x], #[e]⟩, ty, ps, af, g⟩ T L K () () () () = lenVCH Γ.P e (ev T x) K False () () := VQ_len x e
theorem VC_lenH (x : Operand) (e : TypeId) : VCH Γ ⟨dst, .call ⟨.builtin .len, #[x], #[e]⟩, ty, ps, af, g⟩ T L K2 () () () () = lenVCH Γ.P e (ev T x) (fun v => K2 v L) False () () := VC_len x e
theorem VQ_capH (x : Operand) (e : TypeId) : VQH Γ ⟨dst, .call ⟨.builtin .cap, #[x], #[e]⟩, ty, ps, af, g⟩ T L K () () () () = capVCH Γ.P e (ev T x) K False () () := VQ_cap x e
theorem VC_capH (x : Operand) (e : TypeId) : VCH Γ ⟨dst, .call ⟨.builtin .cap, #[x], #[e]⟩, ty, ps, af, g⟩ T L K2 () () () () = capVCH Γ.P e (ev T x) (fun v => K2 v L) False () () := VC_cap x e
theorem VQ_minH (x y : Operand) (ts : Array TypeId) : VQH Γ ⟨dst, .call ⟨.builtin .min, #[x, y], ts⟩, ty, ps, af, g⟩ T L K () () () () = minVCH (ev T x) (ev T y) K False () () := VQ_min x y ts
theorem VC_minH (x y : Operand) (ts : Array TypeId) : VCH Γ ⟨dst, .call ⟨.builtin .min, #[x, y], ts⟩, ty, ps, af, g⟩ T L K2 () () () () = minVCH (ev T x) (ev T y) (fun v => K2 v L) False () () := VC_min x y ts
theorem VQ_maxH (x y : Operand) (ts : Array TypeId) : VQH Γ ⟨dst, .call ⟨.builtin .max, #[x, y], ts⟩, ty, ps, af, g⟩ T L K () () () () = maxVCH (ev T x) (ev T y) K False () () := VQ_max x y ts
theorem VC_maxH (x y : Operand) (ts : Array TypeId) : VCH Γ ⟨dst, .call ⟨.builtin .max, #[x, y], ts⟩, ty, ps, af, g⟩ T L K2 () () () () = maxVCH (ev T x) (ev T y) (fun v => K2 v L) False () () := VC_max x y ts
theorem VQ_convertH (e e2 : TypeId) (x : Operand) : VQH Γ ⟨dst, .convert e e2 x, ty, ps, af, g⟩ T L K () () () () = convVCH Γ e e2 (ev T x) L K (YieldsQ Γ ⟨dst, .convert e e2 x, ty, ps, af, g⟩ T L K) () () () := VQ_convert e e2 x
theorem VQ_callH (f : Operand) (as : Array Operand) (ts : Array TypeId) : VQH Γ ⟨dst, .call ⟨.value f, as, ts⟩, ty, ps, af, g⟩ T L K () () () () = qcallVCH Γ (ev T f) (as.map (ev T)) L K False () () () := VQ_call f as ts
theorem VC_allocH (e : TypeId) : VCH Γ ⟨dst, .alloc e, ty, ps, af, g⟩ T L K2 () () () () = oMH (zr Γ.P e) (fun z => ∀ b, stK (K2 (.pointer (some ⟨b, 0, none⟩)) (some (b, .cells z.toArray e (0, 0)) :: L)) ()) (Yields Γ ⟨dst, .alloc e, ty, ps, af, g⟩ T L K2) () () := VC_alloc e
theorem VC_boxH (e : TypeId) (x : Operand) : VCH Γ ⟨dst, .box e x, ty, ps, af, g⟩ T L K2 () () () () = boxVCH (ev T x) e L K2 () () := VC_box e x
theorem VC_storeH (e : TypeId) (x y : Operand) : VCH Γ ⟨dst, .store e x y, ty, ps, af, g⟩ T L K2 () () () () = stVCH Γ e (ev T x) (ev T y) L (K2 undef) False () () () := VC_store e x y
theorem VC_buildSliceH (e : TypeId) (len : Nat) (parts : List (Nat × Operand)) : VCH Γ ⟨dst, .buildSlice e len parts.toArray, ty, ps, af, g⟩ T L K2 () () () () = bsVCH Γ e len (evP T parts) parts.length L K2 (Yields Γ ⟨dst, .buildSlice e len parts.toArray, ty, ps, af, g⟩ T L K2) () () () := VC_buildSlice e len parts
theorem VC_makeSliceH (e : TypeId) (x y : Operand) : VCH Γ ⟨dst, .makeSlice e x y, ty, ps, af, g⟩ T L K2 () () () () = mkVCH Γ e (ev T x) (ev T y) L K2 False () () () := VC_makeSlice e x y
theorem VC_rangeH (e : TypeId) (x : Operand) : VCH Γ ⟨dst, .range e x, ty, ps, af, g⟩ T L K2 () () () () = rgVCH Γ e (ev T x) L K2 False () () () := VC_range e x
theorem VC_nextH (x : Operand) : VCH Γ ⟨dst, .next x true, ty, ps, af, g⟩ T L K2 () () () () = nxVCH (ev T x) L K2 False () () () := VC_next x
theorem VC_makeMapH (e : TypeId) : VCH Γ ⟨dst, .makeMap e none, ty, ps, af, g⟩ T L K2 () () () () = ∀ b, stK (K2 (.map (some b)) (some (b, .map #[] 0) :: L)) () := VC_makeMap e
theorem VC_mapUpdateH (e : TypeId) (m x y : Operand) : VCH Γ ⟨dst, .mapUpdate e m x y, ty, ps, af, g⟩ T L K2 () () () () = muVCH Γ e (ev T m) (ev T x) (ev T y) L (K2 undef) False () () () := VC_mapUpdate e m x y
theorem VC_insertH (e : TypeId) (m x y : Operand) : VCH Γ ⟨dst, .insert e m x y, ty, ps, af, g⟩ T L K2 () () () () = muVCH Γ e (ev T m) (ev T x) (ev T y) L (K2 undef) False () () () := VC_insert e m x y
theorem VC_convertH (e e2 : TypeId) (x : Operand) : VCH Γ ⟨dst, .convert e e2 x, ty, ps, af, g⟩ T L K2 () () () () = cvVCH Γ e e2 (ev T x) L K2 False (VQH Γ ⟨dst, .convert e e2 x, ty, ps, af, g⟩ T L (fun v => K2 v L) () () () ()) () () () () := VC_convert e e2 x
theorem VC_appendH (x y : Operand) (tx ty2 : TypeId) : VCH Γ ⟨dst, .call ⟨.builtin .append, #[x, y], #[tx, ty2]⟩, ty, ps, af, g⟩ T L K2 () () () () = YAppend Γ tx ty2 (ev T x) (ev T y) L (fun v L => stK (K2 v L) ()) := VC_append x y tx ty2
theorem VC_copyH (x y : Operand) (tx ty2 : TypeId) : VCH Γ ⟨dst, .call ⟨.builtin .copy, #[x, y], #[tx, ty2]⟩, ty, ps, af, g⟩ T L K2 () () () () = YCopy Γ tx ty2 (ev T x) (ev T y) L (fun v L => stK (K2 v L) ()) := VC_copy x y tx ty2
theorem VC_callH (f : Operand) (as : Array Operand) (ts : Array TypeId) : VCH Γ ⟨dst, .call ⟨.value f, as, ts⟩, ty, ps, af, g⟩ T L K2 () () () () = callVCH Γ (ev T f) (as.map (ev T)) L K2 False () () () := VC_call f as ts
theorem loadVC_eH : loadVCH Γ t L ad K () () = oMH (szA Γ.P t) (fun p => if p.2 = true then loadNH Γ L ad 0 p.1 [] (fun v => stK (K v) ()) () () else ∃ v, Cell Γ L ad v ∧ stK (K v) ()) False () () := loadVC_e 
theorem part_eH (ag : Bool) (sz : Nat) (cs : Array Value) (off : Nat) : partVCH ag sz cs off K () = if ag = true then K (.agg (cs.toList.drop off |>.take sz).toArray) else oMH (cs.toList[off]?) K False () () := part_e ag sz cs off
theorem fa_eH (f : Nat) : faVCH P t (.pointer (some ad)) f K D () () = oMH (lay P t) (fun l => oMH l[f]? (fun p => p.2.1 ≠ 0 ∧ K (.pointer (some (ad.add p.1)))) D () ()) D () () := fa_e f
theorem field_eH (cs : Array Value) (f : Nat) : fieldVCH P t (.agg cs) f K D () () = oMH (lay P t) (fun l => oMH l[f]? (fun p => partVCH p.2.2 p.2.1 cs p.1 K ()) D () ()) D () () := field_e cs f
theorem index_eH (cs : Array Value) : indexVCH P t (.agg cs) (.int k a) K D () () = oMH (elA P t) (fun p => (0 ≤ a ∧ a < p.1) ∧ partVCH p.2.2.2 p.2.2.1 cs (a.toNat * p.2.2.1) K ()) D () () := index_e cs
theorem ext_eH (vs : Array Value) (i : Nat) : extVCH (.tuple vs) i K D () () = oMH (vs.toList[i]?) K False () () := ext_e vs i
theorem ia_someH (len cap : Nat) : indexAddrVCH P t (.slice (some ad) len cap) (.int k a) K D () () = oMH (elS P t) (fun p => (0 ≤ a ∧ a < len) ∧ K (.pointer (some (ad.add (a.toNat * p.2.1))))) D () () := ia_some len cap
theorem ia_anyH (base : Option Addr) (len cap : Nat) : indexAddrVCH P t (.slice base len cap) (.int k a) K D () () = oMH (elS P t) (fun p => (0 ≤ a ∧ a < len) ∧ ∃ ad, base = some ad ∧ stK (K (.pointer (some (ad.add (a.toNat * p.2.1))))) ()) D () () := ia_any base len cap
theorem ia_ptrH : indexAddrVCH P t (.pointer (some ad)) (.int k a) K D () () = oMH (elA P t) (fun p => (0 ≤ a ∧ a < p.1) ∧ K (.pointer (some (ad.add (a.toNat * p.2.2.1))))) D () () := ia_ptr 
theorem conv_eH : convVCH Γ s d (.int k a) L K D () () () = oMH (Γ.P.underlying s) (fun _ => oMH (Γ.P.underlying d) (fun u => intDH u (fun k => K (.int k (k.wrap a))) D () ()) D () ()) D () () := conv_e 
theorem sl_strH (st : ByteArray) (lo hi : Option Value) : sliceVCH P t (.string st) lo hi none K D () () = oMH (optI 0 lo) (fun l => oMH (optI st.size hi) (fun h => strDH (P.underlying t) ((0 ≤ l ∧ l ≤ h ∧ h ≤ st.size) ∧ K (.string (st.extract l.toNat h.toNat))) D () ()) D () ()) D () () := sl_str st lo hi
theorem sl_slH (base : Option Addr) (len cap : Nat) (lo hi : Option Value) : sliceVCH P t (.slice base len cap) lo hi none K D () () = oMH (elS P t) (fun p => oMH (optI 0 lo) (fun l => oMH (optI len hi) (fun h => ((hi.isSome = true ∨ len ≤ cap) ∧ 0 ≤ l ∧ l ≤ h ∧ h ≤ cap) ∧ K (.slice (cutA base p.2.1 cap l.toNat) (h.toNat - l.toNat) (cap - l.toNat))) D () ()) D () ()) D () () := sl_sl base len cap lo hi
theorem sl_arr0H (lo : Option Value) : sliceVCH P t (.pointer (some ad)) lo none none K D () () = oMH (elA P t) (fun p => oMH (optI 0 lo) (fun l => (0 ≤ l ∧ l ≤ p.1) ∧ K (.slice (cutA (some ad) p.2.2.1 p.1 l.toNat) (p.1 - l.toNat) (p.1 - l.toNat))) D () ()) D () () := sl_arr0 lo
theorem sl_arr1H (lo : Option Value) (h : Int) : sliceVCH P t (.pointer (some ad)) lo (some (.int k h)) none K D () () = oMH (elA P t) (fun p => oMH (optI 0 lo) (fun l => (0 ≤ l ∧ l ≤ h ∧ h ≤ p.1) ∧ K (.slice (cutA (some ad) p.2.2.1 p.1 l.toNat) (h.toNat - l.toNat) (p.1 - l.toNat))) D () ()) D () () := sl_arr1 lo h
theorem build_eH (parts : List (Nat × Value)) : buildVCH P t parts K D () () = oMH (lay P t) (fun l => oMH (zr P t) (fun z => fillKH (placeL l) z parts (fun cs => K (.agg cs.toArray)) D () ()) D () ()) (oMH (elA P t) (fun p => oMH (zr P t) (fun z => fillKH (fun i => some (i * p.2.2.1, p.2.2.1)) z parts (fun cs => K (.agg cs.toArray)) D () ()) D () ()) D () ()) () () := build_e parts
theorem mk_eH : mkVCH Γ t (.int k a) (.int k' b) L K2 D () () () = oMH (elS Γ.P t) (fun p => oMH (zr Γ.P p.1) (fun z => (0 ≤ a ∧ a ≤ b ∧ b * p.2.2 ≤ 281474976710656 ∧ b ≤ 9223372036854775807 ∧ z.length = p.2.1) ∧ ∀ bk, stK (K2 (.slice (some ⟨bk, 0, none⟩) a.toNat b.toNat) (some (bk, .cells (zerosV z b.toNat).toArray p.1 (0, 0)) :: L)) ()) D () ()) D () () := mk_e 
theorem cv_eH (s d : TypeId) (str : ByteArray) : cvVCH Γ s d (.string str) L K2 D D2 () () () () = oMH (Γ.P.underlying s) (fun _ => oMH (Γ.P.underlying d) (fun u => cvDH u Γ.P str L K2 D () () ()) D () ()) D () () := cv_e s d str
theorem ops_nilH {Q : Env → Hp → Prop} : VCopsH Γ n ops [] Q T L () () () () () = Q T L := ops_nil 
theorem ops_consH {Q : Env → Hp → Prop} (o : Oper) (r : List Oper) : VCopsH Γ n ops (o :: r) Q T L () () () () () = guardVCH ops o.guard T (fun T => VCH Γ o T L (fun v L => putVCH n o.dst v T (fun T => VCopsH Γ n ops r Q T L () () () () ()) () ()) () () () ()) (fun T => putVCH n o.dst undef T (fun T => VCopsH Γ n ops r Q T L () () () () ()) () ()) () () () () := ops_cons o r
theorem qops_nilH {Q : Env → Prop} : VQopsH Γ n ops L [] Q T () () () () () = Q T := qops_nil 
theorem qops_consH {Q : Env → Prop} (o : Oper) (r : List Oper) : VQopsH Γ n ops L (o :: r) Q T () () () () () = guardVCH ops o.guard T (fun T => VQH Γ o T L (fun v => putVCH n o.dst v T (fun T => VQopsH Γ n ops L r Q T () () () () ()) () ()) () () () ()) (fun T => putVCH n o.dst undef T (fun T => VQopsH Γ n ops L r Q T () () () () ()) () ()) () () () () := qops_cons o r
theorem ld_eH : ldVCH Γ t (.pointer (some ad)) L K D () () () = loadVCH Γ t L ad K () () := ld_e 
theorem st_eH (v : Value) : stVCH Γ t (.pointer (some ad)) v L K3 D () () () = storeVCH Γ t ad v L K3 () () := st_e v
theorem call_eH (f : FuncId) (fi ca as : Array Value) : callVCH Γ (.func (.func f) fi ca) as L K2 D () () () = (callable Γ.P f = true ∧ SCall Γ f ((fi ++ as ++ ca)) L (fun v L => stK (K2 v L) ())) := call_e f fi ca as
theorem qcall_eH (f : FuncId) (fi ca as : Array Value) : qcallVCH Γ (.func (.func f) fi ca) as L K D () () () = (callable Γ.P f = true ∧ ∃ v, SCall Γ f ((fi ++ as ++ ca)) L (fun v' L' => v' = v ∧ L' = L) ∧ stK (K v) ()) := qcall_e f fi ca as
theorem eqla_eH {k : TypeId} (x y : Array Value) : binVCH P .eql k (.agg x) (.agg y) K D () () = aggEqH P k x y (fun r => stK (K (.bool r)) ()) () := eqla_e x y
theorem neqa_eH {k : TypeId} (x y : Array Value) : binVCH P .neq k (.agg x) (.agg y) K D () () = aggEqH P k x y (fun r => stK (K (.bool (!r))) ()) () := neqa_e x y
theorem rg_eH (s : ByteArray) : rgVCH Γ t (.string s) L K2 D () () () = (Γ.P.underlying t = some .string ∧ ∀ b, stK (K2 (.pointer (some ⟨b, 0, none⟩)) (some (b, .stringIter s 0) :: L)) ()) := rg_e s
theorem nx_eH (b : Nat) : nxVCH (.pointer (some ⟨b, 0, none⟩)) L K2 D () () () = ∃ (i : Nat) (s : ByteArray) (pos : Nat), L[i]? = some (some (b, .stringIter s pos)) ∧ if pos < s.size then stK (K2 (.tuple #[.bool true, .int .i64 pos, .int .i32 (Utf8.decode s pos).1]) (L.set i (some (b, .stringIter s (pos + (Utf8.decode s pos).2))))) () else stK (K2 (.tuple #[.bool false]) L) () := nx_e b
theorem mu_eH (r : Nat) (x y : Value) : muVCH Γ t (.map (some r)) x y L K3 D () () () = ∃ kd z, mapT Γ.P t = some (kd, z) ∧ ∃ (i : Nat) (es : List MapEntry) (ck : Nat), L[i]? = some (some (r, .map es.toArray ck)) ∧ ∃ fr, Instr.findNow kd x es 0 = some fr ∧ stK (K3 (L.set i (some (r, mapPut es ck x y fr)))) () := mu_e r x y
theorem istr_eH (s : ByteArray) : indexVCH P t (.string s) (.int k a) K D () () = (P.underlying t = some .string ∧ 0 ≤ a ∧ ∃ b : UInt8, s.data.toList[a.toNat]? = some b ∧ stK (K (.int .u8 (b.toNat : Int))) ()) := istr_e s
theorem store_eH {t : TypeId} {v : Value} : storeVCH Γ t ad v L K3 () () = ((szA Γ.P t).map (·.1) = some v.cells.size ∧ oneB v.cells.toList = true ∧ ad.spot = none ∧ ∃ (i : Nat) (cs : List Value) (t' : TypeId) (fr : Nat × Nat), L[i]? = some (some (ad.block, .cells cs.toArray t' fr)) ∧ ad.off + v.cells.size ≤ cs.length ∧ (ad.off + v.cells.size ≤ fr.1 ∨ fr.2 ≤ ad.off) ∧ stK (K3 (L.set i (some (ad.block, .cells (setN cs ad.off v.cells.toList).toArray t' fr)))) ()) := store_e 
end
section
variable {P : Program} {Γ : Ctx} {t : TypeId} {k k' : IntKind} {a b : Int} {K : Value → Prop} {D : Prop} {L : Hp} {ad : Addr} {K2 : Value → Hp → Prop} {D1 D2 : Prop}
theorem bin_addH : binVCH P .add t (.int k a) (.int k' b) K D () () = (k = k' ∧ K (.int k (k.wrap (a + b)))) := bin_add 
theorem bin_subH : binVCH P .sub t (.int k a) (.int k' b) K D () () = (k = k' ∧ K (.int k (k.wrap (a - b)))) := bin_sub 
theorem bin_mulH : binVCH P .mul t (.int k a) (.int k' b) K D () () = (k = k' ∧ K (.int k (k.wrap (a * b)))) := bin_mul 
theorem bin_quoH : binVCH P .quo t (.int k a) (.int k' b) K D () () = (k = k' ∧ b ≠ 0 ∧ K (.int k (k.wrap (a.tdiv b)))) := bin_quo 
theorem bin_remH : binVCH P .rem t (.int k a) (.int k' b) K D () () = (k = k' ∧ b ≠ 0 ∧ K (.int k (a.tmod b))) := bin_rem 
theorem bin_andH : binVCH P .and t (.int k a) (.int k' b) K D () () = (k = k' ∧ K (.int k (bits .and k a b))) := bin_and 
theorem bin_orH : binVCH P .or t (.int k a) (.int k' b) K D () () = (k = k' ∧ K (.int k (bits .or k a b))) := bin_or 
theorem bin_xorH : binVCH P .xor t (.int k a) (.int k' b) K D () () = (k = k' ∧ K (.int k (bits .xor k a b))) := bin_xor 
theorem bin_andNotH : binVCH P .andNot t (.int k a) (.int k' b) K D () () = (k = k' ∧ K (.int k (bits .andNot k a b))) := bin_andNot 
theorem bin_shlH : binVCH P .shl t (.int k a) (.int k' b) K D () () = (0 ≤ b ∧ K (.int k (k.wrap (a * 2 ^ (min b.toNat k.bits))))) := bin_shl 
theorem bin_shrH : binVCH P .shr t (.int k a) (.int k' b) K D () () = (0 ≤ b ∧ K (.int k (a.fdiv (2 ^ (min b.toNat k.bits))))) := bin_shr 
theorem bin_eqlH : binVCH P .eql t (.int k a) (.int k' b) K D () () = (k = k' ∧ K (.bool (decide (a = b)))) := bin_eql 
theorem bin_neqH : binVCH P .neq t (.int k a) (.int k' b) K D () () = (k = k' ∧ K (.bool (!decide (a = b)))) := bin_neq 
theorem bin_lssH : binVCH P .lss t (.int k a) (.int k' b) K D () () = (k = k' ∧ K (.bool (decide (a < b)))) := bin_lss 
theorem bin_leqH : binVCH P .leq t (.int k a) (.int k' b) K D () () = (k = k' ∧ K (.bool (decide (a ≤ b)))) := bin_leq 
theorem bin_gtrH : binVCH P .gtr t (.int k a) (.int k' b) K D () () = (k = k' ∧ K (.bool (decide (b < a)))) := bin_gtr 
theorem bin_geqH : binVCH P .geq t (.int k a) (.int k' b) K D () () = (k = k' ∧ K (.bool (decide (b ≤ a)))) := bin_geq 
theorem bin_eqlbH (x y : Bool) : binVCH P .eql t (.bool x) (.bool y) K D () () = (P.underlying t = some .bool ∧ K (.bool (x == y))) := bin_eqlb x y
theorem bin_neqbH (x y : Bool) : binVCH P .neq t (.bool x) (.bool y) K D () () = (P.underlying t = some .bool ∧ K (.bool (!(x == y)))) := bin_neqb x y
theorem bin_addsH (x y : ByteArray) : binVCH P .add t (.string x) (.string y) K D () () = (x.size + y.size ≤ 9223372036854775807 ∧ K (.string (x ++ y))) := bin_adds x y
theorem bin_eqlsH (x y : ByteArray) : binVCH P .eql t (.string x) (.string y) K D () () = K (.bool (decide (x = y))) := bin_eqls x y
theorem bin_neqsH (x y : ByteArray) : binVCH P .neq t (.string x) (.string y) K D () () = K (.bool (!decide (x = y))) := bin_neqs x y
theorem bin_eqlpnH {p : Option Addr} : binVCH P .eql t (.pointer p) (.pointer none) K D () () = (ptB P t = true ∧ K (.bool p.isNone)) := bin_eqlpn 
theorem bin_neqpnH {p : Option Addr} : binVCH P .neq t (.pointer p) (.pointer none) K D () () = (ptB P t = true ∧ K (.bool (!p.isNone))) := bin_neqpn 
theorem bin_eqlppH {p q : Addr} : binVCH P .eql t (.pointer (some p)) (.pointer (some q)) K D () () = (ptB P t = true ∧ p = q ∧ K (.bool true)) := bin_eqlpp 
theorem bin_neqppH {p q : Addr} : binVCH P .neq t (.pointer (some p)) (.pointer (some q)) K D () () = (ptB P t = true ∧ p = q ∧ K (.bool false)) := bin_neqpp 
theorem bin_eqlsnH {p : Option Addr} {n c : Nat} : binVCH P .eql t (.slice p n c) (.slice none 0 0) K D () () = ((elS P t).isSome = true ∧ K (.bool p.isNone)) := bin_eqlsn 
theorem bin_neqsnH {p : Option Addr} {n c : Nat} : binVCH P .neq t (.slice p n c) (.slice none 0 0) K D () () = ((elS P t).isSome = true ∧ K (.bool (!p.isNone))) := bin_neqsn 
theorem un_notH (x : Bool) : unVCH .not (.bool x) K D () () = K (.bool (!x)) := un_not x
theorem un_negH : unVCH .neg (.int k a) K D () () = K (.int k (k.wrap (0 - a))) := un_neg 
theorem un_xorH : unVCH .xor (.int k a) K D () () = K (.int k (bits .xor k (if k.signed then -1 else k.max) a)) := un_xor 
theorem pick_boolH (c : Bool) (x y : Value) : pickVCH (.bool c) x y K D () () = K (if c then x else y) := pick_bool c x y
theorem nil_ptrH : nilVCH (.pointer (some ad)) K D () () = K (.pointer (some ad)) := nil_ptr 
theorem min_intH : minVCH (.int k a) (.int k' b) K D () () = K (.int k (if b < a then b else a)) := min_int 
theorem max_intH : maxVCH (.int k a) (.int k' b) K D () () = K (.int k (if b > a then b else a)) := max_int 
theorem len_sliceH (base : Option Addr) (n c : Nat) : lenVCH P t (.slice base n c) K D () () = ((elS P t).isSome = true ∧ K (.int .i64 n)) := len_slice base n c
theorem len_strH (s : ByteArray) : lenVCH P t (.string s) K D () () = (P.underlying t = some .string ∧ K (.int .i64 s.size)) := len_str s
theorem cap_sliceH (base : Option Addr) (n c : Nat) : capVCH P t (.slice base n c) K D () () = ((elS P t).isSome = true ∧ K (.int .i64 c)) := cap_slice base n c
theorem lk_mapH (r : Nat) (x : Value) (ok : Bool) : lkVCH Γ t (.map (some r)) x ok L K D () () () = ∃ kd z, mapT Γ.P t = some (kd, z) ∧ ∃ (i : Nat) (es : List MapEntry) (ck : Nat), L[i]? = some (some (r, .map es.toArray ck)) ∧ ∃ fr, Instr.findNow kd x es 0 = some fr ∧ fndKH z ok fr K () := lk_map r x ok
theorem lk_nilH (x : Value) (ok : Bool) : lkVCH Γ t (.map none) x ok L K D () () () = ∃ kd z, mapT Γ.P t = some (kd, z) ∧ fndKH z ok none K () := lk_nil x ok
theorem fnd_someH (z : Option Value) (ok : Bool) (i : Nat) (v : Value) : fndKH z ok (some (i, v)) K () = K (if ok then .tuple #[v, .bool true] else v) := fnd_some z ok i v
theorem cv_intH (s d : TypeId) : cvVCH Γ s d (.int k a) L K2 D D2 () () () () = D2 := cv_int s d
theorem cv_sliceH (s d : TypeId) (A : Option Addr) (n c : Nat) : cvVCH Γ s d (.slice A n c) L K2 D D2 () () () () = D2 := cv_slice s d A n c
theorem fnd_noneH (z : Value) (ok : Bool) : fndKH (some z) ok none K () = K (if ok then .tuple #[z, .bool false] else z) := fnd_none z ok
theorem loadN_zH (i : Nat) (acc : List Value) : loadNH Γ L ad i 0 acc K () () = K (.agg acc.toArray) := rfl
theorem loadN_sH (i n : Nat) (acc : List Value) : loadNH Γ L ad i (n + 1) acc K () () = ∃ v, Cell Γ L (ad.add i) v ∧ loadNH Γ L ad (i + 1) n (acc ++ [v]) K () () := rfl
theorem ldV_H {v : Value} : ldVC Γ t v L K D = ldVCH Γ t v L K D () () () := rfl
theorem ops_H {n : Nat} {ops : Array Oper} {l : List Oper} {Q : Env → Hp → Prop} {T : Env} : VCops Γ n ops l Q T L = VCopsV Γ n ops l Q T L () () () () := rfl
theorem opsV_H {n : Nat} {ops : Array Oper} {l : List Oper} {Q : Env → Hp → Prop} {T : Env} : VCopsV Γ n ops l Q T L () () () () = VCopsH Γ n ops l Q T L () () () () () := rfl
theorem qopsV_H {n : Nat} {ops : Array Oper} {l : List Oper} {Q : Env → Prop} {T : Env} : VQopsV Γ n ops L l Q T () () () () = VQopsH Γ n ops L l Q T () () () () () := rfl
theorem qops_H {n : Nat} {ops : Array Oper} {l : List Oper} {Q : Env → Prop} {T : Env} : VQops Γ n ops L l Q T = VQopsV Γ n ops L l Q T () () () () := rfl
theorem plan_H {n : Nat} {ops : Array Oper} {G : Hp → Hp} {pl : List (Nat × Kd)} {Q : Env → Hp → Prop} {T : Env} : VCplan Γ n ops G pl Q T L = VCplanH Γ n ops G pl Q T L () () () () () := rfl
end
end Go.SX
