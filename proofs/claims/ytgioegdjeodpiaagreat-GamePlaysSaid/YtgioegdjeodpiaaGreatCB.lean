/- A part of a proof: contracts and plain facts that it stands on. -/
import Derived.Test.YtgioegdjeodpiaaGreatCA
import Derived.Laws.BitsLemmas
import Derived.Laws.BitsAllLaws
set_option linter.unusedVariables false
set_option linter.unusedSimpArgs false
universe u
namespace Go.SX
open Go.RowKit
abbrev Dm (_ : Prop) : Type := Unit
def dm (p : Prop) : Dm p := ()
def stK (p : Prop) (_ : Dm p) : Prop := p
theorem stI {p : Prop} {x : Dm p} (h : p) : stK p x := h
theorem stK_e {p : Prop} {x : Dm p} : stK p x = p := Classical.byContradiction fun h=>h rfl
abbrev st (p : Prop) : Prop := stK p (dm p)
def oM {α : Type} (o : Option α) (s : α → Prop) (n : Prop) : Prop := match o with | some a=>s a | none=>n
theorem oM_some {α : Type} (a : α) (s : α → Prop) (n : Prop) : oM (some a) s n = s a := rfl
theorem oM_none {α : Type} (s : α → Prop) (n : Prop) : oM none s n = n := rfl
def gB (v : Value) (want : Bool) (Y N F : Prop) : Prop := match v with | .bool b=>if b = want then Y else N | _=>F
theorem gB_bool (b want : Bool) (Y N F : Prop) : gB (.bool b) want Y N F = if b = want then Y else N := rfl
def strD (o : Option TypeDesc) (Y D : Prop) : Prop := match o with | some .string=>Y | _=>D
theorem strD_string (Y D : Prop) : strD (some .string) Y D = Y := rfl
def boxVC (v : Value) (t : TypeId) (L : Hp) (K : Value → Hp → Prop) : Prop := ∀ b,K (.pointer (some ⟨b,0,none⟩)) (some (b,.cells v.cells t (0,0)) :: L)
theorem box_e (v : Value) (t : TypeId) (L : Hp) (K : Value → Hp → Prop) : boxVC v t L K = ∀ b,stK (K (.pointer (some ⟨b,0,none⟩)) (some (b,.cells v.cells t (0,0)) :: L)) () := rfl
def bsVC (Γ : Ctx) (t : TypeId) (len : Nat) (parts : List (Nat × Value)) (size : Nat) (L : Hp) (K : Value → Hp → Prop) (D : Prop) : Prop :=
 oM (elS Γ.P t) (fun p=>(inOrd p.2.1 0 parts = true ∧ size = len ∧ len * p.2.1 ≤ 16777216 ∧ (zr Γ.P p.1).map List.length = some p.2.1) ∧ ∀ b,K (.slice (some ⟨b,0,none⟩) len len) (some (b,.cells (catV parts).toArray p.1 (0,0)) :: L)) D
theorem bs_e (Γ : Ctx) (t : TypeId) (len : Nat) (parts : List (Nat × Value)) (size : Nat) (L : Hp) (K : Value → Hp → Prop) (D : Prop) : bsVC Γ t len parts size L K D =
 oM (elS Γ.P t) (fun p=>(inOrd p.2.1 0 parts = true ∧ size = len ∧ len * p.2.1 ≤ 16777216 ∧ (zr Γ.P p.1).map List.length = some p.2.1) ∧ ∀ b,stK (K (.slice (some ⟨b,0,none⟩) len len) (some (b,.cells (catV parts).toArray p.1 (0,0)) :: L)) ()) D := rfl
def cvD (u : TypeDesc) (P : Program) (str : ByteArray) (L : Hp) (K2 : Value → Hp → Prop) (D : Prop) : Prop := match u with
 | .slice e=>P.underlying e = some (.int .u8) ∧ ∀ b cap,str.size ≤ cap → K2 (.slice (some ⟨b,0,none⟩) str.size cap) (some (b,.cells (bytesV str ++ List.replicate (cap - str.size) (Value.int .u8 0)).toArray e (cap,cap + 1)) :: L)
 | .string=>K2 (.string str) L
 | _=>D
theorem cvD_slice (e : TypeId) (P : Program) (str : ByteArray) (L : Hp) (K2 : Value → Hp → Prop) (D : Prop) : cvD (.slice e) P str L K2 D = (P.underlying e = some (.int .u8) ∧ ∀ b cap,str.size ≤ cap → stK (K2 (.slice (some ⟨b,0,none⟩) str.size cap) (some (b,.cells (bytesV str ++ List.replicate (cap - str.size) (Value.int .u8 0)).toArray e (cap,cap + 1)) :: L)) ()) := rfl
theorem cvD_string (P : Program) (str : ByteArray) (L : Hp) (K2 : Value → Hp → Prop) (D : Prop) : cvD .string P str L K2 D = K2 (.string str) L := rfl
def evP (T : Env) : List (Nat × Operand) → List (Nat × Value)
 | []=>[]
 | p :: r=>(p.1,ev T p.2) :: evP T r
theorem evP_map (T : Env) (l : List (Nat × Operand)) : (l.map fun p=>(p.1,ev T p.2)) = evP T l := by
 induction l with
 | nil=>rfl
 | cons p r ih=>rw [List.map_cons,ih]; rfl
theorem evP_nil (T : Env) : evP T [] = [] := rfl
theorem evP_cons (T : Env) (p : Nat × Operand) (r : List (Nat × Operand)) : evP T (p :: r) = (p.1,ev T p.2) :: evP T r := rfl
def fillK (place : Nat → Option (Nat × Nat)) (cells : List Value) (parts : List (Nat × Value)) (K : List Value → Prop) (D : Prop) : Prop := match fillL place cells parts with | some cs=>K cs | none=>D
theorem fillK_nil (place : Nat → Option (Nat × Nat)) (cells : List Value) (K : List Value → Prop) (D : Prop) : fillK place cells [] K D = K cells := rfl
theorem fillK_cons (place : Nat → Option (Nat × Nat)) (cells : List Value) (i : Nat) (v : Value) (rest : List (Nat × Value)) (K : List Value → Prop) (D : Prop) :
  fillK place cells ((i,v) :: rest) K D = oM (place i) (fun p=>if v.cells.size = p.2 ∧ p.1 + p.2 ≤ cells.length then fillK place (setN cells p.1 v.cells.toList) rest K D else D) D := by
 unfold fillK oM
 rw [fillL]
 cases place i with
 | none=>rfl
 | some p =>
  obtain ⟨off,size⟩ := p
  dsimp only
  by_cases h : v.cells.size = size ∧ off + size ≤ cells.length
  ·rw [if_pos h,if_pos h]
  rw [if_neg h,if_neg h]
def intD (o : TypeDesc) (K : IntKind → Prop) (D : Prop) : Prop := match o with | .int k=>K k | _=>D
theorem intD_int (k : IntKind) (K : IntKind → Prop) (D : Prop) : intD (.int k) K D = K k := rfl
section
variable {Γ : Ctx} {P : Program} {n : Nat} {ops : Array Oper} {T : Env} {L : Hp} {t s d : TypeId} {k k' : IntKind} {a b : Int} {D : Prop} {ad : Addr}
variable {D2 : Prop} {K : Value → Prop} {K2 : Value → Hp → Prop} {K3 : Hp → Prop} {yes no : Env → Prop} {dst : Option Tmp} {ty : TypeId} {ps : String} {af : Array Edge} {g : Option (Nat × Bool)}
theorem guard_none : guardVC ops none T yes no = yes T := rfl
theorem guard_some (j : Nat) (want : Bool) : guardVC ops (some (j,want)) T yes no = oM ((ops.toList[j]?).bind (·.dst)) (fun d=>gB (T d) want (yes (upd T d (.bool want))) (no (upd T d (.bool (!want)))) (no T)) (no T) := by
 unfold guardVC oM gB
 dsimp only
 cases (ops.toList[j]?).bind (·.dst) <;> rfl
theorem put_none (v : Value) (k : Env → Prop) : putVC n none v T k = k T := rfl
theorem put_some (d : Nat) (v : Value) (k : Env → Prop) : putVC n (some d) v T k = (d < n ∧ k (upd T d v)) := rfl
theorem plan_nil {G : Hp → Hp} {Q : Env → Hp → Prop} : VCplan Γ n ops G [] Q T L = Q T L := rfl
theorem plan_q {G : Hp → Hp} {Q : Env → Hp → Prop} (i : Nat) (r : List (Nat × Kd)) : VCplan Γ n ops G ((i,.q) :: r) Q T L = oM (ops.toList[i]?) (fun o=>guardVC ops o.guard T (fun T=>VQ Γ o T (G L) (fun v=>putVC n o.dst v T (fun T=>VCplan Γ n ops G r Q T L))) (fun T=>putVC n o.dst undef T (fun T=>VCplan Γ n ops G r Q T L))) False := by
 unfold oM; rw [VCplan]; cases ops.toList[i]? <;> rfl
theorem plan_c {G : Hp → Hp} {Q : Env → Hp → Prop} (i : Nat) (r : List (Nat × Kd)) : VCplan Γ n ops G ((i,.c) :: r) Q T L = oM (ops.toList[i]?) (fun o=>guardVC ops o.guard T (fun T=>∃ v,(∀ L0,Less L0 (G L) → VC Γ o T L0 (fun u L1=>u = v ∧ L1 = L0)) ∧ putVC n o.dst v T (fun T=>VCplan Γ n ops G r Q T L)) (fun T=>putVC n o.dst undef T (fun T=>VCplan Γ n ops G r Q T L))) False := by
 unfold oM; rw [VCplan]; cases ops.toList[i]? <;> rfl
theorem plan_e {G : Hp → Hp} {Q : Env → Hp → Prop} (i : Nat) (r : List (Nat × Kd)) : VCplan Γ n ops G ((i,.e) :: r) Q T L = oM (ops.toList[i]?) (fun o=>guardVC ops o.guard T (fun T=>VC Γ o T L (fun v L'=>putVC n o.dst v T (fun T=>(Less L' (G L') ∧ Less (G L') (G L)) ∧ VCplan Γ n ops G r Q T L'))) (fun T=>putVC n o.dst undef T (fun T=>VCplan Γ n ops G r Q T L))) False := by
 unfold oM; rw [VCplan]; cases ops.toList[i]? <;> rfl
theorem plan_t {G : Hp → Hp} {Q : Env → Hp → Prop} (i : Nat) (r : List (Nat × Kd)) : VCplan Γ n ops G ((i,.t) :: r) Q T L = oM (ops.toList[i]?) (fun o=>guardVC ops o.guard T (fun T=>VC Γ o T L (fun v L'=>putVC n o.dst v T (fun T=>VCplan Γ n ops G r Q T L'))) (fun T=>putVC n o.dst undef T (fun T=>VCplan Γ n ops G r Q T L))) False := by
 unfold oM; rw [VCplan]; cases ops.toList[i]? <;> rfl
theorem VQ_move (x : Operand) : VQ Γ ⟨dst,.move x,ty,ps,af,g⟩ T L K = K (ev T x) := rfl
theorem VC_move (x : Operand) : VC Γ ⟨dst,.move x,ty,ps,af,g⟩ T L K2 = (fun v=>K2 v L) (ev T x) := rfl
theorem VQ_assign (x : Operand) : VQ Γ ⟨dst,.assign x,ty,ps,af,g⟩ T L K = K (ev T x) := rfl
theorem VC_assign (x : Operand) : VC Γ ⟨dst,.assign x,ty,ps,af,g⟩ T L K2 = (fun v=>K2 v L) (ev T x) := rfl
theorem VQ_pick (c x y : Operand) : VQ Γ ⟨dst,.pick c x y,ty,ps,af,g⟩ T L K = pickVC (ev T c) (ev T x) (ev T y) K False := rfl
theorem VC_pick (c x y : Operand) : VC Γ ⟨dst,.pick c x y,ty,ps,af,g⟩ T L K2 = pickVC (ev T c) (ev T x) (ev T y) (fun v=>K2 v L) False := rfl
theorem VQ_load (e : TypeId) (x : Operand) : VQ Γ ⟨dst,.load e x,ty,ps,af,g⟩ T L K = ldVC Γ e (ev T x) L K False := rfl
theorem VC_load (e : TypeId) (x : Operand) : VC Γ ⟨dst,.load e x,ty,ps,af,g⟩ T L K2 = ldVC Γ e (ev T x) L (fun v=>K2 v L) False := rfl
theorem VQ_nilCheck (x : Operand) : VQ Γ ⟨dst,.nilCheck x,ty,ps,af,g⟩ T L K = nilVC (ev T x) K False := rfl
theorem VC_nilCheck (x : Operand) : VC Γ ⟨dst,.nilCheck x,ty,ps,af,g⟩ T L K2 = nilVC (ev T x) (fun v=>K2 v L) False := rfl
theorem VQ_unOp (op : UnOp) (e : TypeId) (x : Operand) : VQ Γ ⟨dst,.unOp op e x,ty,ps,af,g⟩ T L K = unVC op (ev T x) K False := rfl
theorem VC_unOp (op : UnOp) (e : TypeId) (x : Operand) : VC Γ ⟨dst,.unOp op e x,ty,ps,af,g⟩ T L K2 = unVC op (ev T x) (fun v=>K2 v L) False := rfl
theorem VQ_binOp (op : BinOp) (e e2 : TypeId) (x y : Operand) : VQ Γ ⟨dst,.binOp op e x y e2,ty,ps,af,g⟩ T L K = binVC Γ.P op e (ev T x) (ev T y) K (YieldsQ Γ ⟨dst,.binOp op e x y e2,ty,ps,af,g⟩ T L K) := rfl
theorem VC_binOp (op : BinOp) (e e2 : TypeId) (x y : Operand) : VC Γ ⟨dst,.binOp op e x y e2,ty,ps,af,g⟩ T L K2 = binVC Γ.P op e (ev T x) (ev T y) (fun v=>K2 v L) (YieldsQ Γ ⟨dst,.binOp op e x y e2,ty,ps,af,g⟩ T L (fun v=>K2 v L)) := rfl
theorem VQ_makeFunc (fn : Fn) (x y : Array Operand) : VQ Γ ⟨dst,.makeFunc fn x y,ty,ps,af,g⟩ T L K = K (.func fn (x.map (ev T)) (y.map (ev T))) := rfl
theorem VC_makeFunc (fn : Fn) (x y : Array Operand) : VC Γ ⟨dst,.makeFunc fn x y,ty,ps,af,g⟩ T L K2 = (fun v=>K2 v L) (.func fn (x.map (ev T)) (y.map (ev T))) := rfl
theorem VQ_fieldAddr (e : TypeId) (x : Operand) (f : Nat) : VQ Γ ⟨dst,.fieldAddr e x f,ty,ps,af,g⟩ T L K = faVC Γ.P e (ev T x) f K False := rfl
theorem VC_fieldAddr (e : TypeId) (x : Operand) (f : Nat) : VC Γ ⟨dst,.fieldAddr e x f,ty,ps,af,g⟩ T L K2 = faVC Γ.P e (ev T x) f (fun v=>K2 v L) False := rfl
theorem VQ_field (e : TypeId) (x : Operand) (f : Nat) : VQ Γ ⟨dst,.field e x f,ty,ps,af,g⟩ T L K = fieldVC Γ.P e (ev T x) f K False := rfl
theorem VC_field (e : TypeId) (x : Operand) (f : Nat) : VC Γ ⟨dst,.field e x f,ty,ps,af,g⟩ T L K2 = fieldVC Γ.P e (ev T x) f (fun v=>K2 v L) False := rfl
theorem VQ_indexAddr (e : TypeId) (x y : Operand) : VQ Γ ⟨dst,.indexAddr e x y,ty,ps,af,g⟩ T L K = indexAddrVC Γ.P e (ev T x) (ev T y) K False := rfl
theorem VC_indexAddr (e : TypeId) (x y : Operand) : VC Γ ⟨dst,.indexAddr e x y,ty,ps,af,g⟩ T L K2 = indexAddrVC Γ.P e (ev T x) (ev T y) (fun v=>K2 v L) False := rfl
theorem VQ_index (e : TypeId) (x y : Operand) : VQ Γ ⟨dst,.index e x y,ty,ps,af,g⟩ T L K = indexVC Γ.P e (ev T x) (ev T y) K False := rfl
theorem VC_index (e : TypeId) (x y : Operand) : VC Γ ⟨dst,.index e x y,ty,ps,af,g⟩ T L K2 = indexVC Γ.P e (ev T x) (ev T y) (fun v=>K2 v L) False := rfl
theorem VQ_slice (e : TypeId) (x : Operand) (lo hi mx : Option Operand) : VQ Γ ⟨dst,.slice e x lo hi mx,ty,ps,af,g⟩ T L K = sliceVC Γ.P e (ev T x) (lo.map (ev T)) (hi.map (ev T)) (mx.map (ev T)) K False := rfl
theorem VC_slice (e : TypeId) (x : Operand) (lo hi mx : Option Operand) : VC Γ ⟨dst,.slice e x lo hi mx,ty,ps,af,g⟩ T L K2 = sliceVC Γ.P e (ev T x) (lo.map (ev T)) (hi.map (ev T)) (mx.map (ev T)) (fun v=>K2 v L) False := rfl
theorem VQ_extract (x : Operand) (i : Nat) : VQ Γ ⟨dst,.extract x i,ty,ps,af,g⟩ T L K = extVC (ev T x) i K False := rfl
theorem VC_extract (x : Operand) (i : Nat) : VC Γ ⟨dst,.extract x i,ty,ps,af,g⟩ T L K2 = extVC (ev T x) i (fun v=>K2 v L) False := rfl
theorem VQ_build (e : TypeId) (parts : List (Nat × Operand)) : VQ Γ ⟨dst,.build e parts.toArray,ty,ps,af,g⟩ T L K = buildVC Γ.P e (evP T parts) K False := by rw [← evP_map]; rfl
theorem VC_build (e : TypeId) (parts : List (Nat × Operand)) : VC Γ ⟨dst,.build e parts.toArray,ty,ps,af,g⟩ T L K2 = buildVC Γ.P e (evP T parts) (fun v=>K2 v L) False := by rw [← evP_map]; rfl
theorem VQ_lookup (e : TypeId) (x y : Operand) (ok : Bool) : VQ Γ ⟨dst,.lookup e x y ok,ty,ps,af,g⟩ T L K = lkVC Γ e (ev T x) (ev T y) ok L K False := rfl
theorem VC_lookup (e : TypeId) (x y : Operand) (ok : Bool) : VC Γ ⟨dst,.lookup e x y ok,ty,ps,af,g⟩ T L K2 = lkVC Γ e (ev T x) (ev T y) ok L (fun v=>K2 v L) False := rfl
theorem VQ_len (x : Operand) (e : TypeId) : VQ Γ ⟨dst,.call ⟨.builtin .len,#[x],#[e]⟩,ty,ps,af,g⟩ T L K = lenVC Γ.P e (ev T x) K False := rfl
theorem VC_len (x : Operand) (e : TypeId) : VC Γ ⟨dst,.call ⟨.builtin .len,#[x],#[e]⟩,ty,ps,af,g⟩ T L K2 = lenVC Γ.P e (ev T x) (fun v=>K2 v L) False := rfl
theorem VQ_cap (x : Operand) (e : TypeId) : VQ Γ ⟨dst,.call ⟨.builtin .cap,#[x],#[e]⟩,ty,ps,af,g⟩ T L K = capVC Γ.P e (ev T x) K False := rfl
theorem VC_cap (x : Operand) (e : TypeId) : VC Γ ⟨dst,.call ⟨.builtin .cap,#[x],#[e]⟩,ty,ps,af,g⟩ T L K2 = capVC Γ.P e (ev T x) (fun v=>K2 v L) False := rfl
theorem VQ_min (x y : Operand) (ts : Array TypeId) : VQ Γ ⟨dst,.call ⟨.builtin .min,#[x,y],ts⟩,ty,ps,af,g⟩ T L K = minVC (ev T x) (ev T y) K False := rfl
theorem VC_min (x y : Operand) (ts : Array TypeId) : VC Γ ⟨dst,.call ⟨.builtin .min,#[x,y],ts⟩,ty,ps,af,g⟩ T L K2 = minVC (ev T x) (ev T y) (fun v=>K2 v L) False := rfl
theorem VQ_max (x y : Operand) (ts : Array TypeId) : VQ Γ ⟨dst,.call ⟨.builtin .max,#[x,y],ts⟩,ty,ps,af,g⟩ T L K = maxVC (ev T x) (ev T y) K False := rfl
theorem VC_max (x y : Operand) (ts : Array TypeId) : VC Γ ⟨dst,.call ⟨.builtin .max,#[x,y],ts⟩,ty,ps,af,g⟩ T L K2 = maxVC (ev T x) (ev T y) (fun v=>K2 v L) False := rfl
theorem VQ_convert (e e2 : TypeId) (x : Operand) : VQ Γ ⟨dst,.convert e e2 x,ty,ps,af,g⟩ T L K = convVC Γ e e2 (ev T x) L K (YieldsQ Γ ⟨dst,.convert e e2 x,ty,ps,af,g⟩ T L K) := rfl
theorem VQ_call (f : Operand) (as_ : Array Operand) (ts : Array TypeId) : VQ Γ ⟨dst,.call ⟨.value f,as_,ts⟩,ty,ps,af,g⟩ T L K = qcallVC Γ (ev T f) (as_.map (ev T)) L K False := rfl
theorem VC_alloc (e : TypeId) : VC Γ ⟨dst,.alloc e,ty,ps,af,g⟩ T L K2 = oM (zr Γ.P e) (fun z=>∀ b,stK (K2 (.pointer (some ⟨b,0,none⟩)) (some (b,.cells z.toArray e (0,0)) :: L)) ()) (Yields Γ ⟨dst,.alloc e,ty,ps,af,g⟩ T L K2) := by
 simp only [stK_e]
 unfold VC oM
 dsimp only
 cases zr Γ.P e <;> rfl
theorem VC_box (e : TypeId) (x : Operand) : VC Γ ⟨dst,.box e x,ty,ps,af,g⟩ T L K2 = boxVC (ev T x) e L K2 := rfl
theorem VC_store (e : TypeId) (x y : Operand) : VC Γ ⟨dst,.store e x y,ty,ps,af,g⟩ T L K2 = stVC Γ e (ev T x) (ev T y) L (K2 undef) False := rfl
theorem VC_buildSlice (e : TypeId) (len : Nat) (parts : List (Nat × Operand)) : VC Γ ⟨dst,.buildSlice e len parts.toArray,ty,ps,af,g⟩ T L K2 = bsVC Γ e len (evP T parts) parts.length L K2 (Yields Γ ⟨dst,.buildSlice e len parts.toArray,ty,ps,af,g⟩ T L K2) := by
 rw [← evP_map]
 unfold VC bsVC oM
 dsimp only
 cases elS Γ.P e <;> simp
theorem VC_makeSlice (e : TypeId) (x y : Operand) : VC Γ ⟨dst,.makeSlice e x y,ty,ps,af,g⟩ T L K2 = mkVC Γ e (ev T x) (ev T y) L K2 False := rfl
theorem VC_range (e : TypeId) (x : Operand) : VC Γ ⟨dst,.range e x,ty,ps,af,g⟩ T L K2 = rgVC Γ e (ev T x) L K2 False := rfl
theorem VC_next (x : Operand) : VC Γ ⟨dst,.next x true,ty,ps,af,g⟩ T L K2 = nxVC (ev T x) L K2 False := rfl
theorem VC_makeMap (e : TypeId) : VC Γ ⟨dst,.makeMap e none,ty,ps,af,g⟩ T L K2 = ∀ b,stK (K2 (.map (some b)) (some (b,.map #[] 0) :: L)) () := rfl
theorem VC_mapUpdate (e : TypeId) (m x y : Operand) : VC Γ ⟨dst,.mapUpdate e m x y,ty,ps,af,g⟩ T L K2 = muVC Γ e (ev T m) (ev T x) (ev T y) L (K2 undef) False := rfl
theorem VC_insert (e : TypeId) (m x y : Operand) : VC Γ ⟨dst,.insert e m x y,ty,ps,af,g⟩ T L K2 = muVC Γ e (ev T m) (ev T x) (ev T y) L (K2 undef) False := rfl
theorem VC_convert (e e2 : TypeId) (x : Operand) : VC Γ ⟨dst,.convert e e2 x,ty,ps,af,g⟩ T L K2 = cvVC Γ e e2 (ev T x) L K2 False (VQ Γ ⟨dst,.convert e e2 x,ty,ps,af,g⟩ T L (fun v=>K2 v L)) := rfl
theorem VC_append (x y : Operand) (tx ty2 : TypeId) : VC Γ ⟨dst,.call ⟨.builtin .append,#[x,y],#[tx,ty2]⟩,ty,ps,af,g⟩ T L K2 = YAppend Γ tx ty2 (ev T x) (ev T y) L (fun v L=>stK (K2 v L) ()) := rfl
theorem VC_copy (x y : Operand) (tx ty2 : TypeId) : VC Γ ⟨dst,.call ⟨.builtin .copy,#[x,y],#[tx,ty2]⟩,ty,ps,af,g⟩ T L K2 = YCopy Γ tx ty2 (ev T x) (ev T y) L (fun v L=>stK (K2 v L) ()) := rfl
theorem VC_call (f : Operand) (as_ : Array Operand) (ts : Array TypeId) : VC Γ ⟨dst,.call ⟨.value f,as_,ts⟩,ty,ps,af,g⟩ T L K2 = callVC Γ (ev T f) (as_.map (ev T)) L K2 False := rfl
theorem loadVC_e : loadVC Γ t L ad K = oM (szA Γ.P t) (fun p=>if p.2 = true then loadN Γ L ad 0 p.1 [] (fun v=>stK (K v) ()) else ∃ v,Cell Γ L ad v ∧ stK (K v) ()) False := by
 simp only [stK_e]
 unfold loadVC oM
 split <;> rename_i h <;> rw [h] <;> simp
theorem part_e (ag : Bool) (sz : Nat) (cs : Array Value) (off : Nat) : partVC ag sz cs off K = if ag = true then K (.agg (cs.toList.drop off |>.take sz).toArray) else oM (cs.toList[off]?) K False := by
 unfold partVC oM
 cases ag
 ·cases h : cs.toList[off]? <;> simp
 rfl
theorem fa_e (f : Nat) : faVC P t (.pointer (some ad)) f K D = oM (lay P t) (fun l=>oM l[f]? (fun p=>p.2.1 ≠ 0 ∧ K (.pointer (some (ad.add p.1)))) D) D := by
 unfold faVC oM
 cases lay P t with
 | none=>rfl
 | some l=>cases h : l[f]? <;> simp [h]
theorem field_e (cs : Array Value) (f : Nat) : fieldVC P t (.agg cs) f K D = oM (lay P t) (fun l=>oM l[f]? (fun p=>partVC p.2.2 p.2.1 cs p.1 K) D) D := by
 unfold fieldVC oM
 cases lay P t with
 | none=>rfl
 | some l=>cases h : l[f]? <;> simp [h]
theorem index_e (cs : Array Value) : indexVC P t (.agg cs) (.int k a) K D = oM (elA P t) (fun p=>(0 ≤ a ∧ a < p.1) ∧ partVC p.2.2.2 p.2.2.1 cs (a.toNat * p.2.2.1) K) D := by
 unfold indexVC oM
 cases elA P t <;> rfl
theorem ext_e (vs : Array Value) (i : Nat) : extVC (.tuple vs) i K D = oM (vs.toList[i]?) K False := by
 unfold extVC oM
 dsimp only
 cases vs.toList[i]? <;> simp
theorem ia_some (len cap : Nat) : indexAddrVC P t (.slice (some ad) len cap) (.int k a) K D = oM (elS P t) (fun p=>(0 ≤ a ∧ a < len) ∧ K (.pointer (some (ad.add (a.toNat * p.2.1))))) D := by
 unfold indexAddrVC oM
 cases elS P t <;> simp
theorem ia_any (base : Option Addr) (len cap : Nat) : indexAddrVC P t (.slice base len cap) (.int k a) K D = oM (elS P t) (fun p=>(0 ≤ a ∧ a < len) ∧ ∃ ad,base = some ad ∧ stK (K (.pointer (some (ad.add (a.toNat * p.2.1))))) ()) D := by
 simp only [stK_e]
 unfold indexAddrVC oM
 cases elS P t <;> rfl
theorem ia_ptr : indexAddrVC P t (.pointer (some ad)) (.int k a) K D = oM (elA P t) (fun p=>(0 ≤ a ∧ a < p.1) ∧ K (.pointer (some (ad.add (a.toNat * p.2.2.1))))) D := by
 unfold indexAddrVC oM
 cases elA P t <;> rfl
theorem conv_e : convVC Γ s d (.int k a) L K D = oM (Γ.P.underlying s) (fun _=>oM (Γ.P.underlying d) (fun u=>intD u (fun k=>K (.int k (k.wrap a))) D) D) D := by
 unfold convVC oM intD
 cases Γ.P.underlying s with
 | none=>rfl
 | some x=>cases hd : Γ.P.underlying d with
  | none=>rfl
  | some y=>cases y <;> rfl
theorem sl_str (st : ByteArray) (lo hi : Option Value) : sliceVC P t (.string st) lo hi none K D = oM (optI 0 lo) (fun l=>oM (optI st.size hi) (fun h=>strD (P.underlying t) ((0 ≤ l ∧ l ≤ h ∧ h ≤ st.size) ∧ K (.string (st.extract l.toNat h.toNat))) D) D) D := by
 unfold sliceVC oM strD
 dsimp only
 cases h1 : P.underlying t with
 | none=>cases optI 0 lo <;> cases optI (↑st.size) hi <;> rfl
 | some u=>cases u <;> cases optI 0 lo <;> cases optI (↑st.size) hi <;> rfl
theorem sl_sl (base : Option Addr) (len cap : Nat) (lo hi : Option Value) : sliceVC P t (.slice base len cap) lo hi none K D = oM (elS P t) (fun p=>oM (optI 0 lo) (fun l=>oM (optI len hi) (fun h=>((hi.isSome = true ∨ len ≤ cap) ∧ 0 ≤ l ∧ l ≤ h ∧ h ≤ cap) ∧ K (.slice (cutA base p.2.1 cap l.toNat) (h.toNat - l.toNat) (cap - l.toNat))) D) D) D := by
 unfold sliceVC oM
 dsimp only
 cases elS P t <;> cases optI 0 lo <;> cases optI (↑len) hi <;> rfl
theorem sl_arr0 (lo : Option Value) : sliceVC P t (.pointer (some ad)) lo none none K D = oM (elA P t) (fun p=>oM (optI 0 lo) (fun l=>(0 ≤ l ∧ l ≤ p.1) ∧ K (.slice (cutA (some ad) p.2.2.1 p.1 l.toNat) (p.1 - l.toNat) (p.1 - l.toNat))) D) D := by
 unfold sliceVC oM
 dsimp only
 cases elA P t <;> cases optI 0 lo <;> rfl
theorem sl_arr1 (lo : Option Value) (h : Int) : sliceVC P t (.pointer (some ad)) lo (some (.int k h)) none K D = oM (elA P t) (fun p=>oM (optI 0 lo) (fun l=>(0 ≤ l ∧ l ≤ h ∧ h ≤ p.1) ∧ K (.slice (cutA (some ad) p.2.2.1 p.1 l.toNat) (h.toNat - l.toNat) (p.1 - l.toNat))) D) D := by
 unfold sliceVC oM
 dsimp only
 cases elA P t <;> cases optI 0 lo <;> rfl
theorem build_e (parts : List (Nat × Value)) : buildVC P t parts K D = oM (lay P t) (fun l=>oM (zr P t) (fun z=>fillK (placeL l) z parts (fun cs=>K (.agg cs.toArray)) D) D) (oM (elA P t) (fun p=>oM (zr P t) (fun z=>fillK (fun i=>some (i * p.2.2.1,p.2.2.1)) z parts (fun cs=>K (.agg cs.toArray)) D) D) D) := by
 unfold buildVC oM fillK
 cases h1 : lay P t with
 | none=>cases h2 : elA P t with
  | none=>cases zr P t <;> rfl
  | some p=>cases h3 : zr P t with
   | none=>rfl
   | some z=>cases h4 : fillL (fun i=>some (i * p.2.2.1,p.2.2.1)) z parts <;> simp [h4]
 | some l=>cases h3 : zr P t with
  | none=>cases h2 : elA P t <;> rfl
  | some z=>cases h4 : fillL (placeL l) z parts <;> simp [h4]
theorem mk_e : mkVC Γ t (.int k a) (.int k' b) L K2 D = oM (elS Γ.P t) (fun p=>oM (zr Γ.P p.1) (fun z=>(0 ≤ a ∧ a ≤ b ∧ b * p.2.2 ≤ 281474976710656 ∧ b ≤ 9223372036854775807 ∧ z.length = p.2.1) ∧ ∀ bk,stK (K2 (.slice (some ⟨bk,0,none⟩) a.toNat b.toNat) (some (bk,.cells (zerosV z b.toNat).toArray p.1 (0,0)) :: L)) ()) D) D := by
 simp only [stK_e]
 unfold mkVC oM
 cases h : elS Γ.P t with
 | none=>rfl
 | some p=>cases h2 : zr Γ.P p.1 <;> simp [h2]
theorem cv_e (s d : TypeId) (str : ByteArray) : cvVC Γ s d (.string str) L K2 D D2 = oM (Γ.P.underlying s) (fun _=>oM (Γ.P.underlying d) (fun u=>cvD u Γ.P str L K2 D) D) D := by
 unfold cvVC oM cvD
 cases Γ.P.underlying s with
 | none=>rfl
 | some x=>cases hd : Γ.P.underlying d with
  | none=>rfl
  | some y=>cases y <;> rfl
end
section
variable {Γ : Ctx} {P : Program} {n : Nat} {ops : Array Oper} {T : Env} {L : Hp} {t : TypeId} {k : IntKind} {a : Int} {K : Value → Prop} {K2 : Value → Hp → Prop} {K3 : Hp → Prop} {D : Prop} {ad : Addr}
theorem ops_nil {Q : Env → Hp → Prop} : VCops Γ n ops [] Q T L = Q T L := rfl
theorem ops_cons {Q : Env → Hp → Prop} (o : Oper) (r : List Oper) : VCops Γ n ops (o :: r) Q T L = guardVC ops o.guard T (fun T=>VC Γ o T L (fun v L=>putVC n o.dst v T (fun T=>VCops Γ n ops r Q T L))) (fun T=>putVC n o.dst undef T (fun T=>VCops Γ n ops r Q T L)) := rfl
theorem qops_nil {Q : Env → Prop} : VQops Γ n ops L [] Q T = Q T := rfl
theorem qops_cons {Q : Env → Prop} (o : Oper) (r : List Oper) : VQops Γ n ops L (o :: r) Q T = guardVC ops o.guard T (fun T=>VQ Γ o T L (fun v=>putVC n o.dst v T (fun T=>VQops Γ n ops L r Q T))) (fun T=>putVC n o.dst undef T (fun T=>VQops Γ n ops L r Q T)) := rfl
theorem ld_e : ldVC Γ t (.pointer (some ad)) L K D = loadVC Γ t L ad K := rfl
theorem st_e (v : Value) : stVC Γ t (.pointer (some ad)) v L K3 D = storeVC Γ t ad v L K3 := rfl
theorem call_e (f : FuncId) (fi ca as_ : Array Value) : callVC Γ (.func (.func f) fi ca) as_ L K2 D = (callable Γ.P f = true ∧ SCall Γ f ((fi ++ as_ ++ ca)) L (fun v L=>stK (K2 v L) ())) := rfl
theorem qcall_e (f : FuncId) (fi ca as_ : Array Value) : qcallVC Γ (.func (.func f) fi ca) as_ L K D = (callable Γ.P f = true ∧ ∃ v,SCall Γ f ((fi ++ as_ ++ ca)) L (fun v' L'=>v' = v ∧ L' = L) ∧ stK (K v) ()) := rfl
theorem eqla_e {k : TypeId} (x y : Array Value) : binVC P .eql k (.agg x) (.agg y) K D = aggEq P k x y (fun r=>stK (K (.bool r)) ()) := rfl
theorem neqa_e {k : TypeId} (x y : Array Value) : binVC P .neq k (.agg x) (.agg y) K D = aggEq P k x y (fun r=>stK (K (.bool (!r))) ()) := rfl
theorem rg_e (s : ByteArray) : rgVC Γ t (.string s) L K2 D = (Γ.P.underlying t = some .string ∧ ∀ b,stK (K2 (.pointer (some ⟨b,0,none⟩)) (some (b,.stringIter s 0) :: L)) ()) := rfl
theorem nx_e (b : Nat) : nxVC (.pointer (some ⟨b,0,none⟩)) L K2 D = ∃ (i : Nat) (s : ByteArray) (pos : Nat),L[i]? = some (some (b,.stringIter s pos)) ∧
   if pos < s.size then stK (K2 (.tuple #[.bool true,.int .i64 pos,.int .i32 (Utf8.decode s pos).1]) (L.set i (some (b,.stringIter s (pos + (Utf8.decode s pos).2))))) () else stK (K2 (.tuple #[.bool false]) L) () := rfl
theorem mu_e (r : Nat) (x y : Value) : muVC Γ t (.map (some r)) x y L K3 D = ∃ kd z,mapT Γ.P t = some (kd,z) ∧ ∃ (i : Nat) (es : List MapEntry) (ck : Nat),L[i]? = some (some (r,.map es.toArray ck)) ∧ ∃ fr,Instr.findNow kd x es 0 = some fr ∧ stK (K3 (L.set i (some (r,mapPut es ck x y fr)))) () := rfl
theorem istr_e (s : ByteArray) : indexVC P t (.string s) (.int k a) K D = (P.underlying t = some .string ∧ 0 ≤ a ∧ ∃ b : UInt8,s.data.toList[a.toNat]? = some b ∧ stK (K (.int .u8 (b.toNat : Int))) ()) := rfl
theorem store_e {t : TypeId} {v : Value} : storeVC Γ t ad v L K3 = ((szA Γ.P t).map (·.1) = some v.cells.size ∧ oneB v.cells.toList = true ∧ ad.spot = none ∧
 ∃ (i : Nat) (cs : List Value) (t' : TypeId) (fr : Nat × Nat),L[i]? = some (some (ad.block,.cells cs.toArray t' fr)) ∧ ad.off + v.cells.size ≤ cs.length ∧ (ad.off + v.cells.size ≤ fr.1 ∨ fr.2 ≤ ad.off) ∧
  stK (K3 (L.set i (some (ad.block,.cells (setN cs ad.off v.cells.toList).toArray t' fr)))) ()) := rfl
end
section
variable {Γ : Ctx} {n : Nat} {Q : Exit → Env → Hp → Prop} {T : Env} {L : Hp}
def Dsts (ops : Array Oper) (ds : List (Option Tmp)) : Prop := ∀ j : Nat,(ops.toList[j]?).bind (fun o : Oper=>o.dst) = (ds[j]?).bind id
theorem dsts_of {l : List Oper} {ds : List (Option Tmp)} (h : l.map (fun o : Oper=>o.dst) = ds) : Dsts l.toArray ds := fun j=>by
 subst h
 show (l[j]?).bind _ = _
 rw [List.getElem?_map]
 cases l[j]? <;> rfl
theorem SX.region_d {id : Nat} {l : List Oper} (ds : List (Option Tmp)) (hd : l.map (fun o : Oper=>o.dst) = ds) (h : ∀ ops : Array Oper,Dsts ops ds → VCops Γ n ops l (Q .normal) T L) : SX Γ n (.region id l.toArray false) Q T L := SX.region (h _ (dsts_of hd))
theorem SX.region_xd {id : Nat} {l : List Oper} (ds : List (Option Tmp)) (hd : l.map (fun o : Oper=>o.dst) = ds) (h : ∀ ops : Array Oper,Dsts ops ds → RX Γ n ops l Q T L) : SX Γ n (.region id l.toArray false) Q T L := SX.region_x (h _ (dsts_of hd))
theorem SX.quiet_d {id : Nat} {l : List Oper} (hm : Γ.P.follows .mixedOrders = true) (hB : Region.lexB .any l.toArray = true) (ds : List (Option Tmp)) (hd : l.map (fun o : Oper=>o.dst) = ds) (h : ∀ ops : Array Oper,Dsts ops ds → VQops Γ n ops L l (fun T=>Q .normal T L) T) : SX Γ n (.region id l.toArray true) Q T L := SX.quiet hm hB (h _ (dsts_of hd))
theorem SX.quiet_xd {id : Nat} {l : List Oper} (hm : Γ.P.follows .mixedOrders = true) (hB : Region.lexB .any l.toArray = true) (ds : List (Option Tmp)) (hd : l.map (fun o : Oper=>o.dst) = ds) (h : ∀ ops : Array Oper,Dsts ops ds → QX Γ n ops l L (fun T=>Q .normal T L) T) : SX Γ n (.region id l.toArray true) Q T L := SX.quiet_x hm hB (h _ (dsts_of hd))
theorem SX.drawn_d {id : Nat} {l : List Oper} (pl : List (Nat × Kd)) (G : Hp → Hp) (hm : Γ.P.follows .mixedOrders = true) (hB : planB l.toArray pl = true) (hG : Less L (G L)) (ds : List (Option Tmp)) (hd : l.map (fun o : Oper=>o.dst) = ds)
  (h : ∀ ops : Array Oper,Dsts ops ds → (∀ k : Nat,ops.toList[k]? = l[k]?) → VCplan Γ n ops G pl (Q .normal) T L) : SX Γ n (.region id l.toArray true) Q T L := SX.drawn pl G hm hB hG (h _ (dsts_of hd) fun _=>rfl)
end
abbrev Dk {α : Sort u} (_ : α) : Type := Unit
def VCplanH (Γ : Ctx) (n : Nat) (ops : Array Oper) (G : (Hp → Hp)) (pl : List (Nat × Kd)) (K : (Env → Hp → Prop)) (T : Env) (L : Hp) (_ : Dk ops) (_ : Dk G) (_ : Dk K) (_ : Dk T) (_ : Dk L) : Prop := VCplan Γ n ops G pl K T L
def VCopsH (Γ : Ctx) (n : Nat) (ops : Array Oper) (l : List Oper) (K : (Env → Hp → Prop)) (T : Env) (L : Hp) (_ : Dk ops) (_ : Dk l) (_ : Dk K) (_ : Dk T) (_ : Dk L) : Prop := VCops Γ n ops l K T L
def VQopsH (Γ : Ctx) (n : Nat) (ops : Array Oper) (L : Hp) (l : List Oper) (K : (Env → Prop)) (T : Env) (_ : Dk ops) (_ : Dk L) (_ : Dk l) (_ : Dk K) (_ : Dk T) : Prop := VQops Γ n ops L l K T
def guardVCH (ops : Array Oper) (g : Option (Nat × Bool)) (T : Env) (yes : (Env → Prop)) (no : (Env → Prop)) (_ : Dk ops) (_ : Dk T) (_ : Dk yes) (_ : Dk no) : Prop := guardVC ops g T yes no
def putVCH (n : Nat) (d : Option Tmp) (v : Value) (T : Env) (k : (Env → Prop)) (_ : Dk T) (_ : Dk k) : Prop := putVC n d v T k
def VCH (Γ : Ctx) (o : Oper) (T : Env) (L : Hp) (K : (Value → Hp → Prop)) (_ : Dk o) (_ : Dk T) (_ : Dk L) (_ : Dk K) : Prop := VC Γ o T L K
def VQH (Γ : Ctx) (o : Oper) (T : Env) (L : Hp) (K : (Value → Prop)) (_ : Dk o) (_ : Dk T) (_ : Dk L) (_ : Dk K) : Prop := VQ Γ o T L K
def binVCH (P : Program) (op : BinOp) (t : TypeId) (x : Value) (y : Value) (K : (Value → Prop)) (D : Prop) (_ : Dk K) (_ : Dk D) : Prop := binVC P op t x y K D
def unVCH (op : UnOp) (x : Value) (K : (Value → Prop)) (D : Prop) (_ : Dk K) (_ : Dk D) : Prop := unVC op x K D
def convVCH (Γ : Ctx) (s : TypeId) (d : TypeId) (x : Value) (L : Hp) (K : (Value → Prop)) (D : Prop) (_ : Dk L) (_ : Dk K) (_ : Dk D) : Prop := convVC Γ s d x L K D
def sliceVCH (P : Program) (t : TypeId) (x : Value) (lo : Option Value) (hi : Option Value) (mx : Option Value) (K : (Value → Prop)) (D : Prop) (_ : Dk K) (_ : Dk D) : Prop := sliceVC P t x lo hi mx K D
def partVCH (ag : Bool) (sz : Nat) (cs : Array Value) (off : Nat) (K : (Value → Prop)) (_ : Dk K) : Prop := partVC ag sz cs off K
def fieldVCH (P : Program) (t : TypeId) (x : Value) (f : Nat) (K : (Value → Prop)) (D : Prop) (_ : Dk K) (_ : Dk D) : Prop := fieldVC P t x f K D
def indexVCH (P : Program) (t : TypeId) (x : Value) (i : Value) (K : (Value → Prop)) (D : Prop) (_ : Dk K) (_ : Dk D) : Prop := indexVC P t x i K D
def indexAddrVCH (P : Program) (t : TypeId) (x : Value) (i : Value) (K : (Value → Prop)) (D : Prop) (_ : Dk K) (_ : Dk D) : Prop := indexAddrVC P t x i K D
def buildVCH (P : Program) (t : TypeId) (parts : List (Nat × Value)) (K : (Value → Prop)) (D : Prop) (_ : Dk K) (_ : Dk D) : Prop := buildVC P t parts K D
def lenVCH (P : Program) (ty : TypeId) (x : Value) (K : (Value → Prop)) (D : Prop) (_ : Dk K) (_ : Dk D) : Prop := lenVC P ty x K D
def capVCH (P : Program) (ty : TypeId) (x : Value) (K : (Value → Prop)) (D : Prop) (_ : Dk K) (_ : Dk D) : Prop := capVC P ty x K D
def pickVCH (v : Value) (x : Value) (y : Value) (K : (Value → Prop)) (D : Prop) (_ : Dk K) (_ : Dk D) : Prop := pickVC v x y K D
def ldVCH (Γ : Ctx) (t : TypeId) (v : Value) (L : Hp) (K : (Value → Prop)) (D : Prop) (_ : Dk L) (_ : Dk K) (_ : Dk D) : Prop := ldVC Γ t v L K D
def loadVCH (Γ : Ctx) (t : TypeId) (L : Hp) (a : Addr) (K : (Value → Prop)) (_ : Dk L) (_ : Dk K) : Prop := loadVC Γ t L a K
def loadNH (Γ : Ctx) (L : Hp) (a : Addr) (i : Nat) (k : Nat) (acc : List Value) (K : (Value → Prop)) (_ : Dk L) (_ : Dk K) : Prop := loadN Γ L a i k acc K
def nilVCH (v : Value) (K : (Value → Prop)) (D : Prop) (_ : Dk K) (_ : Dk D) : Prop := nilVC v K D
def faVCH (P : Program) (t : TypeId) (v : Value) (f : Nat) (K : (Value → Prop)) (D : Prop) (_ : Dk K) (_ : Dk D) : Prop := faVC P t v f K D
def extVCH (v : Value) (i : Nat) (K : (Value → Prop)) (D : Prop) (_ : Dk K) (_ : Dk D) : Prop := extVC v i K D
def minVCH (x : Value) (y : Value) (K : (Value → Prop)) (D : Prop) (_ : Dk K) (_ : Dk D) : Prop := minVC x y K D
def maxVCH (x : Value) (y : Value) (K : (Value → Prop)) (D : Prop) (_ : Dk K) (_ : Dk D) : Prop := maxVC x y K D
def qcallVCH (Γ : Ctx) (f : Value) (args : Array Value) (L : Hp) (K : (Value → Prop)) (D : Prop) (_ : Dk L) (_ : Dk K) (_ : Dk D) : Prop := qcallVC Γ f args L K D
def lkVCH (Γ : Ctx) (t : TypeId) (x : Value) (k : Value) (ok : Bool) (L : Hp) (K : (Value → Prop)) (D : Prop) (_ : Dk L) (_ : Dk K) (_ : Dk D) : Prop := lkVC Γ t x k ok L K D
def fndKH (z : Option Value) (ok : Bool) (fr : Option (Nat × Value)) (K : (Value → Prop)) (_ : Dk K) : Prop := fndK z ok fr K
def aggEqH (P : Program) (t : TypeId) (a : Array Value) (b : Array Value) (K : (Bool → Prop)) (_ : Dk K) : Prop := aggEq P t a b K
def storeVCH (Γ : Ctx) (t : TypeId) (a : Addr) (v : Value) (L : Hp) (K : (Hp → Prop)) (_ : Dk L) (_ : Dk K) : Prop := storeVC Γ t a v L K
def stVCH (Γ : Ctx) (t : TypeId) (p : Value) (v : Value) (L : Hp) (K : (Hp → Prop)) (D : Prop) (_ : Dk L) (_ : Dk K) (_ : Dk D) : Prop := stVC Γ t p v L K D
def mkVCH (Γ : Ctx) (t : TypeId) (l : Value) (c : Value) (L : Hp) (K : (Value → Hp → Prop)) (D : Prop) (_ : Dk L) (_ : Dk K) (_ : Dk D) : Prop := mkVC Γ t l c L K D
def cvVCH (Γ : Ctx) (s : TypeId) (d : TypeId) (v : Value) (L : Hp) (K : (Value → Hp → Prop)) (D1 : Prop) (D2 : Prop) (_ : Dk L) (_ : Dk K) (_ : Dk D1) (_ : Dk D2) : Prop := cvVC Γ s d v L K D1 D2
def callVCH (Γ : Ctx) (f : Value) (args : Array Value) (L : Hp) (K : (Value → Hp → Prop)) (D : Prop) (_ : Dk L) (_ : Dk K) (_ : Dk D) : Prop := callVC Γ f args L K D
def rgVCH (Γ : Ctx) (t : TypeId) (x : Value) (L : Hp) (K : (Value → Hp → Prop)) (D : Prop) (_ : Dk L) (_ : Dk K) (_ : Dk D) : Prop := rgVC Γ t x L K D
def nxVCH (x : Value) (L : Hp) (K : (Value → Hp → Prop)) (D : Prop) (_ : Dk L) (_ : Dk K) (_ : Dk D) : Prop := nxVC x L K D
def muVCH (Γ : Ctx) (t : TypeId) (m : Value) (k : Value) (v : Value) (L : Hp) (K : (Hp → Prop)) (D : Prop) (_ : Dk L) (_ : Dk K) (_ : Dk D) : Prop := muVC Γ t m k v L K D
def boxVCH (v : Value) (t : TypeId) (L : Hp) (K : (Value → Hp → Prop)) (_ : Dk L) (_ : Dk K) : Prop := boxVC v t L K
def bsVCH (Γ : Ctx) (t : TypeId) (len : Nat) (parts : List (Nat × Value)) (size : Nat) (L : Hp) (K : (Value → Hp → Prop)) (D : Prop) (_ : Dk L) (_ : Dk K) (_ : Dk D) : Prop := bsVC Γ t len parts size L K D
def strDH (o : Option TypeDesc) (Y : Prop) (D : Prop) (_ : Dk Y) (_ : Dk D) : Prop := strD o Y D
def intDH (o : TypeDesc) (K : (IntKind → Prop)) (D : Prop) (_ : Dk K) (_ : Dk D) : Prop := intD o K D
def cvDH (u : TypeDesc) (P : Program) (str : ByteArray) (L : Hp) (K2 : (Value → Hp → Prop)) (D : Prop) (_ : Dk L) (_ : Dk K2) (_ : Dk D) : Prop := cvD u P str L K2 D
def fillKH (place : (Nat → Option (Nat × Nat))) (cells : List Value) (parts : List (Nat × Value)) (K : (List Value → Prop)) (D : Prop) (_ : Dk K) (_ : Dk D) : Prop := fillK place cells parts K D
def gBH (v : Value) (want : Bool) (Y : Prop) (N : Prop) (F : Prop) (_ : Dk Y) (_ : Dk N) (_ : Dk F) : Prop := gB v want Y N F
def oMH {α : Type} (o : Option α) (s : (α → Prop)) (n : Prop) (_ : Dk s) (_ : Dk n) : Prop := oM o s n
def VCopsV (Γ : Ctx) (n : Nat) (ops : Array Oper) (l : List Oper) (K : Env → Hp → Prop) (T : Env) (L : Hp) (_ : Dk ops) (_ : Dk K) (_ : Dk T) (_ : Dk L) : Prop := VCops Γ n ops l K T L
def VQopsV (Γ : Ctx) (n : Nat) (ops : Array Oper) (L : Hp) (l : List Oper) (K : Env → Prop) (T : Env) (_ : Dk ops) (_ : Dk L) (_ : Dk K) (_ : Dk T) : Prop := VQops Γ n ops L l K T
section
variable {Γ : Ctx} {P : Program} {n : Nat} {ops : Array Oper} {T : Env} {L : Hp} {t s d : TypeId} {k k' : IntKind} {a b : Int} {D D2 : Prop} {ad : Addr}
variable {K : Value → Prop} {K2 : Value → Hp → Prop} {K3 : Hp → Prop} {yes no : Env → Prop} {dst : Option Tmp} {ty : TypeId} {ps : String} {af : Array Edge} {g : Option (Nat × Bool)}
theorem oM_someH {α : Type} (a : α) (s : α → Prop) (n : Prop) : oMH (some a) s n () () = s a := oM_some a s n
theorem oM_noneH {α : Type} (s : α → Prop) (n : Prop) : oMH none s n () () = n := oM_none s n
theorem gB_boolH (b want : Bool) (Y N F : Prop) : gBH (.bool b) want Y N F () () () = if b = want then Y else N := gB_bool b want Y N F
theorem strD_stringH (Y D : Prop) : strDH (some .string) Y D () () = Y := strD_string Y D
theorem box_eH (v : Value) (t : TypeId) (L : Hp) (K : Value → Hp → Prop) : boxVCH v t L K () () = ∀ b,stK (K (.pointer (some ⟨b,0,none⟩)) (some (b,.cells v.cells t (0,0)) :: L)) () := box_e v t L K
theorem bs_eH (Γ : Ctx) (t : TypeId) (len : Nat) (parts : List (Nat × Value)) (size : Nat) (L : Hp) (K : Value → Hp → Prop) (D : Prop) : bsVCH Γ t len parts size L K D () () () = oMH (elS Γ.P t) (fun p=>(inOrd p.2.1 0 parts = true ∧ size = len ∧ len * p.2.1 ≤ 16777216 ∧ (zr Γ.P p.1).map List.length = some p.2.1) ∧ ∀ b,stK (K (.slice (some ⟨b,0,none⟩) len len) (some (b,.cells (catV parts).toArray p.1 (0,0)) :: L)) ()) D () () := bs_e Γ t len parts size L K D
theorem cvD_sliceH (e : TypeId) (P : Program) (str : ByteArray) (L : Hp) (K2 : Value → Hp → Prop) (D : Prop) : cvDH (.slice e) P str L K2 D () () () = (P.underlying e = some (.int .u8) ∧ ∀ b cap,str.size ≤ cap → stK (K2 (.slice (some ⟨b,0,none⟩) str.size cap) (some (b,.cells (bytesV str ++ List.replicate (cap - str.size) (Value.int .u8 0)).toArray e (cap,cap + 1)) :: L)) ()) := cvD_slice e P str L K2 D
theorem cvD_stringH (P : Program) (str : ByteArray) (L : Hp) (K2 : Value → Hp → Prop) (D : Prop) : cvDH .string P str L K2 D () () () = K2 (.string str) L := cvD_string P str L K2 D
theorem fillK_nilH (place : Nat → Option (Nat × Nat)) (cells : List Value) (K : List Value → Prop) (D : Prop) : fillKH place cells [] K D () () = K cells := fillK_nil place cells K D
theorem fillK_consH (place : Nat → Option (Nat × Nat)) (cells : List Value) (i : Nat) (v : Value) (rest : List (Nat × Value)) (K : List Value → Prop) (D : Prop) : fillKH place cells ((i,v) :: rest) K D () () = oMH (place i) (fun p=>if v.cells.size = p.2 ∧ p.1 + p.2 ≤ cells.length then fillKH place (setN cells p.1 v.cells.toList) rest K D () () else D) D () () := fillK_cons place cells i v rest K D
theorem intD_intH (k : IntKind) (K : IntKind → Prop) (D : Prop) : intDH (.int k) K D () () = K k := intD_int k K D
theorem guard_noneH : guardVCH ops none T yes no () () () () = yes T := guard_none 
theorem guard_someH (j : Nat) (want : Bool) : guardVCH ops (some (j,want)) T yes no () () () () = oMH ((ops.toList[j]?).bind (·.dst)) (fun d=>gBH (T d) want (yes (upd T d (.bool want))) (no (upd T d (.bool (!want)))) (no T) () () ()) (no T) () () := guard_some j want
theorem put_noneH (v : Value) (k : Env → Prop) : putVCH n none v T k () () = k T := put_none v k
theorem put_someH (d : Nat) (v : Value) (k : Env → Prop) : putVCH n (some d) v T k () () = (d < n ∧ k (upd T d v)) := put_some d v k
theorem plan_nilH {G : Hp → Hp} {Q : Env → Hp → Prop} : VCplanH Γ n ops G [] Q T L () () () () () = Q T L := plan_nil 
theorem plan_qH {G : Hp → Hp} {Q : Env → Hp → Prop} (i : Nat) (r : List (Nat × Kd)) : VCplanH Γ n ops G ((i,.q) :: r) Q T L () () () () () = oMH (ops.toList[i]?) (fun o=>guardVCH ops o.guard T (fun T=>VQH Γ o T (G L) (fun v=>putVCH n o.dst v T (fun T=>VCplanH Γ n ops G r Q T L () () () () ()) () ()) () () () ()) (fun T=>putVCH n o.dst undef T (fun T=>VCplanH Γ n ops G r Q T L () () () () ()) () ()) () () () ()) False () () := plan_q i r
theorem plan_cH {G : Hp → Hp} {Q : Env → Hp → Prop} (i : Nat) (r : List (Nat × Kd)) : VCplanH Γ n ops G ((i,.c) :: r) Q T L () () () () () = oMH (ops.toList[i]?) (fun o=>guardVCH ops o.guard T (fun T=>∃ v,(∀ L0,Less L0 (G L) → VCH Γ o T L0 (fun u L1=>u = v ∧ L1 = L0) () () () ()) ∧ putVCH n o.dst v T (fun T=>VCplanH Γ n ops G r Q T L () () () () ()) () ()) (fun T=>putVCH n o.dst undef T (fun T=>VCplanH Γ n ops G r Q T L () () () () ()) () ()) () () () ()) False () () := plan_c i r
theorem plan_eH {G : Hp → Hp} {Q : Env → Hp → Prop} (i : Nat) (r : List (Nat × Kd)) : VCplanH Γ n ops G ((i,.e) :: r) Q T L () () () () () = oMH (ops.toList[i]?) (fun o=>guardVCH ops o.guard T (fun T=>VCH Γ o T L (fun v L'=>putVCH n o.dst v T (fun T=>(Less L' (G L') ∧ Less (G L') (G L)) ∧ VCplanH Γ n ops G r Q T L' () () () () ()) () ()) () () () ()) (fun T=>putVCH n o.dst undef T (fun T=>VCplanH Γ n ops G r Q T L () () () () ()) () ()) () () () ()) False () () := plan_e i r
theorem plan_tH {G : Hp → Hp} {Q : Env → Hp → Prop} (i : Nat) (r : List (Nat × Kd)) : VCplanH Γ n ops G ((i,.t) :: r) Q T L () () () () () = oMH (ops.toList[i]?) (fun o=>guardVCH ops o.guard T (fun T=>VCH Γ o T L (fun v L'=>putVCH n o.dst v T (fun T=>VCplanH Γ n ops G r Q T L' () () () () ()) () ()) () () () ()) (fun T=>putVCH n o.dst undef T (fun T=>VCplanH Γ n ops G r Q T L () () () () ()) () ()) () () () ()) False () () := plan_t i r
theorem VQ_moveH (x : Operand) : VQH Γ ⟨dst,.move x,ty,ps,af,g⟩ T L K () () () () = K (ev T x) := VQ_move x
theorem VC_moveH (x : Operand) : VCH Γ ⟨dst,.move x,ty,ps,af,g⟩ T L K2 () () () () = (fun v=>K2 v L) (ev T x) := VC_move x
theorem VQ_assignH (x : Operand) : VQH Γ ⟨dst,.assign x,ty,ps,af,g⟩ T L K () () () () = K (ev T x) := VQ_assign x
theorem VC_assignH (x : Operand) : VCH Γ ⟨dst,.assign x,ty,ps,af,g⟩ T L K2 () () () () = (fun v=>K2 v L) (ev T x) := VC_assign x
theorem VQ_pickH (c x y : Operand) : VQH Γ ⟨dst,.pick c x y,ty,ps,af,g⟩ T L K () () () () = pickVCH (ev T c) (ev T x) (ev T y) K False () () := VQ_pick c x y
theorem VC_pickH (c x y : Operand) : VCH Γ ⟨dst,.pick c x y,ty,ps,af,g⟩ T L K2 () () () () = pickVCH (ev T c) (ev T x) (ev T y) (fun v=>K2 v L) False () () := VC_pick c x y
theorem VQ_loadH (e : TypeId) (x : Operand) : VQH Γ ⟨dst,.load e x,ty,ps,af,g⟩ T L K () () () () = ldVCH Γ e (ev T x) L K False () () () := VQ_load e x
theorem VC_loadH (e : TypeId) (x : Operand) : VCH Γ ⟨dst,.load e x,ty,ps,af,g⟩ T L K2 () () () () = ldVCH Γ e (ev T x) L (fun v=>K2 v L) False () () () := VC_load e x
theorem VQ_nilCheckH (x : Operand) : VQH Γ ⟨dst,.nilCheck x,ty,ps,af,g⟩ T L K () () () () = nilVCH (ev T x) K False () () := VQ_nilCheck x
theorem VC_nilCheckH (x : Operand) : VCH Γ ⟨dst,.nilCheck x,ty,ps,af,g⟩ T L K2 () () () () = nilVCH (ev T x) (fun v=>K2 v L) False () () := VC_nilCheck x
theorem VQ_unOpH (op : UnOp) (e : TypeId) (x : Operand) : VQH Γ ⟨dst,.unOp op e x,ty,ps,af,g⟩ T L K () () () () = unVCH op (ev T x) K False () () := VQ_unOp op e x
theorem VC_unOpH (op : UnOp) (e : TypeId) (x : Operand) : VCH Γ ⟨dst,.unOp op e x,ty,ps,af,g⟩ T L K2 () () () () = unVCH op (ev T x) (fun v=>K2 v L) False () () := VC_unOp op e x
theorem VQ_binOpH (op : BinOp) (e e2 : TypeId) (x y : Operand) : VQH Γ ⟨dst,.binOp op e x y e2,ty,ps,af,g⟩ T L K () () () () = binVCH Γ.P op e (ev T x) (ev T y) K (YieldsQ Γ ⟨dst,.binOp op e x y e2,ty,ps,af,g⟩ T L K) () () := VQ_binOp op e e2 x y
theorem VC_binOpH (op : BinOp) (e e2 : TypeId) (x y : Operand) : VCH Γ ⟨dst,.binOp op e x y e2,ty,ps,af,g⟩ T L K2 () () () () = binVCH Γ.P op e (ev T x) (ev T y) (fun v=>K2 v L) (YieldsQ Γ ⟨dst,.binOp op e x y e2,ty,ps,af,g⟩ T L (fun v=>K2 v L)) () () := VC_binOp op e e2 x y
theorem VQ_makeFuncH (fn : Fn) (x y : Array Operand) : VQH Γ ⟨dst,.makeFunc fn x y,ty,ps,af,g⟩ T L K () () () () = K (.func fn (x.map (ev T)) (y.map (ev T))) := VQ_makeFunc fn x y
theorem VC_makeFuncH (fn : Fn) (x y : Array Operand) : VCH Γ ⟨dst,.makeFunc fn x y,ty,ps,af,g⟩ T L K2 () () () () = (fun v=>K2 v L) (.func fn (x.map (ev T)) (y.map (ev T))) := VC_makeFunc fn x y
theorem VQ_fieldAddrH (e : TypeId) (x : Operand) (f : Nat) : VQH Γ ⟨dst,.fieldAddr e x f,ty,ps,af,g⟩ T L K () () () () = faVCH Γ.P e (ev T x) f K False () () := VQ_fieldAddr e x f
theorem VC_fieldAddrH (e : TypeId) (x : Operand) (f : Nat) : VCH Γ ⟨dst,.fieldAddr e x f,ty,ps,af,g⟩ T L K2 () () () () = faVCH Γ.P e (ev T x) f (fun v=>K2 v L) False () () := VC_fieldAddr e x f
theorem VQ_fieldH (e : TypeId) (x : Operand) (f : Nat) : VQH Γ ⟨dst,.field e x f,ty,ps,af,g⟩ T L K () () () () = fieldVCH Γ.P e (ev T x) f K False () () := VQ_field e x f
theorem VC_fieldH (e : TypeId) (x : Operand) (f : Nat) : VCH Γ ⟨dst,.field e x f,ty,ps,af,g⟩ T L K2 () () () () = fieldVCH Γ.P e (ev T x) f (fun v=>K2 v L) False () () := VC_field e x f
theorem VQ_indexAddrH (e : TypeId) (x y : Operand) : VQH Γ ⟨dst,.indexAddr e x y,ty,ps,af,g⟩ T L K () () () () = indexAddrVCH Γ.P e (ev T x) (ev T y) K False () () := VQ_indexAddr e x y
theorem VC_indexAddrH (e : TypeId) (x y : Operand) : VCH Γ ⟨dst,.indexAddr e x y,ty,ps,af,g⟩ T L K2 () () () () = indexAddrVCH Γ.P e (ev T x) (ev T y) (fun v=>K2 v L) False () () := VC_indexAddr e x y
theorem VQ_indexH (e : TypeId) (x y : Operand) : VQH Γ ⟨dst,.index e x y,ty,ps,af,g⟩ T L K () () () () = indexVCH Γ.P e (ev T x) (ev T y) K False () () := VQ_index e x y
theorem VC_indexH (e : TypeId) (x y : Operand) : VCH Γ ⟨dst,.index e x y,ty,ps,af,g⟩ T L K2 () () () () = indexVCH Γ.P e (ev T x) (ev T y) (fun v=>K2 v L) False () () := VC_index e x y
theorem VQ_sliceH (e : TypeId) (x : Operand) (lo hi mx : Option Operand) : VQH Γ ⟨dst,.slice e x lo hi mx,ty,ps,af,g⟩ T L K () () () () = sliceVCH Γ.P e (ev T x) (lo.map (ev T)) (hi.map (ev T)) (mx.map (ev T)) K False () () := VQ_slice e x lo hi mx
theorem VC_sliceH (e : TypeId) (x : Operand) (lo hi mx : Option Operand) : VCH Γ ⟨dst,.slice e x lo hi mx,ty,ps,af,g⟩ T L K2 () () () () = sliceVCH Γ.P e (ev T x) (lo.map (ev T)) (hi.map (ev T)) (mx.map (ev T)) (fun v=>K2 v L) False () () := VC_slice e x lo hi mx
theorem VQ_extractH (x : Operand) (i : Nat) : VQH Γ ⟨dst,.extract x i,ty,ps,af,g⟩ T L K () () () () = extVCH (ev T x) i K False () () := VQ_extract x i
theorem VC_extractH (x : Operand) (i : Nat) : VCH Γ ⟨dst,.extract x i,ty,ps,af,g⟩ T L K2 () () () () = extVCH (ev T x) i (fun v=>K2 v L) False () () := VC_extract x i
theorem VQ_buildH (e : TypeId) (parts : List (Nat × Operand)) : VQH Γ ⟨dst,.build e parts.toArray,ty,ps,af,g⟩ T L K () () () () = buildVCH Γ.P e (evP T parts) K False () () := VQ_build e parts
theorem VC_buildH (e : TypeId) (parts : List (Nat × Operand)) : VCH Γ ⟨dst,.build e parts.toArray,ty,ps,af,g⟩ T L K2 () () () () = buildVCH Γ.P e (evP T parts) (fun v=>K2 v L) False () () := VC_build e parts
theorem VQ_lookupH (e : TypeId) (x y : Operand) (ok : Bool) : VQH Γ ⟨dst,.lookup e x y ok,ty,ps,af,g⟩ T L K () () () () = lkVCH Γ e (ev T x) (ev T y) ok L K False () () () := VQ_lookup e x y ok
theorem VC_lookupH (e : TypeId) (x y : Operand) (ok : Bool) : VCH Γ ⟨dst,.lookup e x y ok,ty,ps,af,g⟩ T L K2 () () () () = lkVCH Γ e (ev T x) (ev T y) ok L (fun v=>K2 v L) False () () () := VC_lookup e x y ok
theorem VQ_lenH (x : Operand) (e : TypeId) : VQH Γ ⟨dst,.call ⟨.builtin .len,#[x],#[e]⟩,ty,ps,af,g⟩ T L K () () () () = lenVCH Γ.P e (ev T x) K False () () := VQ_len x e
theorem VC_lenH (x : Operand) (e : TypeId) : VCH Γ ⟨dst,.call ⟨.builtin .len,#[x],#[e]⟩,ty,ps,af,g⟩ T L K2 () () () () = lenVCH Γ.P e (ev T x) (fun v=>K2 v L) False () () := VC_len x e
theorem VQ_capH (x : Operand) (e : TypeId) : VQH Γ ⟨dst,.call ⟨.builtin .cap,#[x],#[e]⟩,ty,ps,af,g⟩ T L K () () () () = capVCH Γ.P e (ev T x) K False () () := VQ_cap x e
theorem VC_capH (x : Operand) (e : TypeId) : VCH Γ ⟨dst,.call ⟨.builtin .cap,#[x],#[e]⟩,ty,ps,af,g⟩ T L K2 () () () () = capVCH Γ.P e (ev T x) (fun v=>K2 v L) False () () := VC_cap x e
theorem VQ_minH (x y : Operand) (ts : Array TypeId) : VQH Γ ⟨dst,.call ⟨.builtin .min,#[x,y],ts⟩,ty,ps,af,g⟩ T L K () () () () = minVCH (ev T x) (ev T y) K False () () := VQ_min x y ts
theorem VC_minH (x y : Operand) (ts : Array TypeId) : VCH Γ ⟨dst,.call ⟨.builtin .min,#[x,y],ts⟩,ty,ps,af,g⟩ T L K2 () () () () = minVCH (ev T x) (ev T y) (fun v=>K2 v L) False () () := VC_min x y ts
theorem VQ_maxH (x y : Operand) (ts : Array TypeId) : VQH Γ ⟨dst,.call ⟨.builtin .max,#[x,y],ts⟩,ty,ps,af,g⟩ T L K () () () () = maxVCH (ev T x) (ev T y) K False () () := VQ_max x y ts
theorem VC_maxH (x y : Operand) (ts : Array TypeId) : VCH Γ ⟨dst,.call ⟨.builtin .max,#[x,y],ts⟩,ty,ps,af,g⟩ T L K2 () () () () = maxVCH (ev T x) (ev T y) (fun v=>K2 v L) False () () := VC_max x y ts
theorem VQ_convertH (e e2 : TypeId) (x : Operand) : VQH Γ ⟨dst,.convert e e2 x,ty,ps,af,g⟩ T L K () () () () = convVCH Γ e e2 (ev T x) L K (YieldsQ Γ ⟨dst,.convert e e2 x,ty,ps,af,g⟩ T L K) () () () := VQ_convert e e2 x
theorem VQ_callH (f : Operand) (as_ : Array Operand) (ts : Array TypeId) : VQH Γ ⟨dst,.call ⟨.value f,as_,ts⟩,ty,ps,af,g⟩ T L K () () () () = qcallVCH Γ (ev T f) (as_.map (ev T)) L K False () () () := VQ_call f as_ ts
theorem VC_allocH (e : TypeId) : VCH Γ ⟨dst,.alloc e,ty,ps,af,g⟩ T L K2 () () () () = oMH (zr Γ.P e) (fun z=>∀ b,stK (K2 (.pointer (some ⟨b,0,none⟩)) (some (b,.cells z.toArray e (0,0)) :: L)) ()) (Yields Γ ⟨dst,.alloc e,ty,ps,af,g⟩ T L K2) () () := VC_alloc e
theorem VC_boxH (e : TypeId) (x : Operand) : VCH Γ ⟨dst,.box e x,ty,ps,af,g⟩ T L K2 () () () () = boxVCH (ev T x) e L K2 () () := VC_box e x
theorem VC_storeH (e : TypeId) (x y : Operand) : VCH Γ ⟨dst,.store e x y,ty,ps,af,g⟩ T L K2 () () () () = stVCH Γ e (ev T x) (ev T y) L (K2 undef) False () () () := VC_store e x y
theorem VC_buildSliceH (e : TypeId) (len : Nat) (parts : List (Nat × Operand)) : VCH Γ ⟨dst,.buildSlice e len parts.toArray,ty,ps,af,g⟩ T L K2 () () () () = bsVCH Γ e len (evP T parts) parts.length L K2 (Yields Γ ⟨dst,.buildSlice e len parts.toArray,ty,ps,af,g⟩ T L K2) () () () := VC_buildSlice e len parts
theorem VC_makeSliceH (e : TypeId) (x y : Operand) : VCH Γ ⟨dst,.makeSlice e x y,ty,ps,af,g⟩ T L K2 () () () () = mkVCH Γ e (ev T x) (ev T y) L K2 False () () () := VC_makeSlice e x y
theorem VC_rangeH (e : TypeId) (x : Operand) : VCH Γ ⟨dst,.range e x,ty,ps,af,g⟩ T L K2 () () () () = rgVCH Γ e (ev T x) L K2 False () () () := VC_range e x
theorem VC_nextH (x : Operand) : VCH Γ ⟨dst,.next x true,ty,ps,af,g⟩ T L K2 () () () () = nxVCH (ev T x) L K2 False () () () := VC_next x
theorem VC_makeMapH (e : TypeId) : VCH Γ ⟨dst,.makeMap e none,ty,ps,af,g⟩ T L K2 () () () () = ∀ b,stK (K2 (.map (some b)) (some (b,.map #[] 0) :: L)) () := VC_makeMap e
theorem VC_mapUpdateH (e : TypeId) (m x y : Operand) : VCH Γ ⟨dst,.mapUpdate e m x y,ty,ps,af,g⟩ T L K2 () () () () = muVCH Γ e (ev T m) (ev T x) (ev T y) L (K2 undef) False () () () := VC_mapUpdate e m x y
theorem VC_insertH (e : TypeId) (m x y : Operand) : VCH Γ ⟨dst,.insert e m x y,ty,ps,af,g⟩ T L K2 () () () () = muVCH Γ e (ev T m) (ev T x) (ev T y) L (K2 undef) False () () () := VC_insert e m x y
theorem VC_convertH (e e2 : TypeId) (x : Operand) : VCH Γ ⟨dst,.convert e e2 x,ty,ps,af,g⟩ T L K2 () () () () = cvVCH Γ e e2 (ev T x) L K2 False (VQH Γ ⟨dst,.convert e e2 x,ty,ps,af,g⟩ T L (fun v=>K2 v L) () () () ()) () () () () := VC_convert e e2 x
theorem VC_appendH (x y : Operand) (tx ty2 : TypeId) : VCH Γ ⟨dst,.call ⟨.builtin .append,#[x,y],#[tx,ty2]⟩,ty,ps,af,g⟩ T L K2 () () () () = YAppend Γ tx ty2 (ev T x) (ev T y) L (fun v L=>stK (K2 v L) ()) := VC_append x y tx ty2
theorem VC_copyH (x y : Operand) (tx ty2 : TypeId) : VCH Γ ⟨dst,.call ⟨.builtin .copy,#[x,y],#[tx,ty2]⟩,ty,ps,af,g⟩ T L K2 () () () () = YCopy Γ tx ty2 (ev T x) (ev T y) L (fun v L=>stK (K2 v L) ()) := VC_copy x y tx ty2
theorem VC_callH (f : Operand) (as_ : Array Operand) (ts : Array TypeId) : VCH Γ ⟨dst,.call ⟨.value f,as_,ts⟩,ty,ps,af,g⟩ T L K2 () () () () = callVCH Γ (ev T f) (as_.map (ev T)) L K2 False () () () := VC_call f as_ ts
theorem loadVC_eH : loadVCH Γ t L ad K () () = oMH (szA Γ.P t) (fun p=>if p.2 = true then loadNH Γ L ad 0 p.1 [] (fun v=>stK (K v) ()) () () else ∃ v,Cell Γ L ad v ∧ stK (K v) ()) False () () := loadVC_e 
theorem part_eH (ag : Bool) (sz : Nat) (cs : Array Value) (off : Nat) : partVCH ag sz cs off K () = if ag = true then K (.agg (cs.toList.drop off |>.take sz).toArray) else oMH (cs.toList[off]?) K False () () := part_e ag sz cs off
theorem fa_eH (f : Nat) : faVCH P t (.pointer (some ad)) f K D () () = oMH (lay P t) (fun l=>oMH l[f]? (fun p=>p.2.1 ≠ 0 ∧ K (.pointer (some (ad.add p.1)))) D () ()) D () () := fa_e f
theorem field_eH (cs : Array Value) (f : Nat) : fieldVCH P t (.agg cs) f K D () () = oMH (lay P t) (fun l=>oMH l[f]? (fun p=>partVCH p.2.2 p.2.1 cs p.1 K ()) D () ()) D () () := field_e cs f
theorem index_eH (cs : Array Value) : indexVCH P t (.agg cs) (.int k a) K D () () = oMH (elA P t) (fun p=>(0 ≤ a ∧ a < p.1) ∧ partVCH p.2.2.2 p.2.2.1 cs (a.toNat * p.2.2.1) K ()) D () () := index_e cs
theorem ext_eH (vs : Array Value) (i : Nat) : extVCH (.tuple vs) i K D () () = oMH (vs.toList[i]?) K False () () := ext_e vs i
theorem ia_someH (len cap : Nat) : indexAddrVCH P t (.slice (some ad) len cap) (.int k a) K D () () = oMH (elS P t) (fun p=>(0 ≤ a ∧ a < len) ∧ K (.pointer (some (ad.add (a.toNat * p.2.1))))) D () () := ia_some len cap
theorem ia_anyH (base : Option Addr) (len cap : Nat) : indexAddrVCH P t (.slice base len cap) (.int k a) K D () () = oMH (elS P t) (fun p=>(0 ≤ a ∧ a < len) ∧ ∃ ad,base = some ad ∧ stK (K (.pointer (some (ad.add (a.toNat * p.2.1))))) ()) D () () := ia_any base len cap
theorem ia_ptrH : indexAddrVCH P t (.pointer (some ad)) (.int k a) K D () () = oMH (elA P t) (fun p=>(0 ≤ a ∧ a < p.1) ∧ K (.pointer (some (ad.add (a.toNat * p.2.2.1))))) D () () := ia_ptr 
theorem conv_eH : convVCH Γ s d (.int k a) L K D () () () = oMH (Γ.P.underlying s) (fun _=>oMH (Γ.P.underlying d) (fun u=>intDH u (fun k=>K (.int k (k.wrap a))) D () ()) D () ()) D () () := conv_e 
theorem sl_strH (st : ByteArray) (lo hi : Option Value) : sliceVCH P t (.string st) lo hi none K D () () = oMH (optI 0 lo) (fun l=>oMH (optI st.size hi) (fun h=>strDH (P.underlying t) ((0 ≤ l ∧ l ≤ h ∧ h ≤ st.size) ∧ K (.string (st.extract l.toNat h.toNat))) D () ()) D () ()) D () () := sl_str st lo hi
theorem sl_slH (base : Option Addr) (len cap : Nat) (lo hi : Option Value) : sliceVCH P t (.slice base len cap) lo hi none K D () () = oMH (elS P t) (fun p=>oMH (optI 0 lo) (fun l=>oMH (optI len hi) (fun h=>((hi.isSome = true ∨ len ≤ cap) ∧ 0 ≤ l ∧ l ≤ h ∧ h ≤ cap) ∧ K (.slice (cutA base p.2.1 cap l.toNat) (h.toNat - l.toNat) (cap - l.toNat))) D () ()) D () ()) D () () := sl_sl base len cap lo hi
theorem sl_arr0H (lo : Option Value) : sliceVCH P t (.pointer (some ad)) lo none none K D () () = oMH (elA P t) (fun p=>oMH (optI 0 lo) (fun l=>(0 ≤ l ∧ l ≤ p.1) ∧ K (.slice (cutA (some ad) p.2.2.1 p.1 l.toNat) (p.1 - l.toNat) (p.1 - l.toNat))) D () ()) D () () := sl_arr0 lo
theorem sl_arr1H (lo : Option Value) (h : Int) : sliceVCH P t (.pointer (some ad)) lo (some (.int k h)) none K D () () = oMH (elA P t) (fun p=>oMH (optI 0 lo) (fun l=>(0 ≤ l ∧ l ≤ h ∧ h ≤ p.1) ∧ K (.slice (cutA (some ad) p.2.2.1 p.1 l.toNat) (h.toNat - l.toNat) (p.1 - l.toNat))) D () ()) D () () := sl_arr1 lo h
theorem build_eH (parts : List (Nat × Value)) : buildVCH P t parts K D () () = oMH (lay P t) (fun l=>oMH (zr P t) (fun z=>fillKH (placeL l) z parts (fun cs=>K (.agg cs.toArray)) D () ()) D () ()) (oMH (elA P t) (fun p=>oMH (zr P t) (fun z=>fillKH (fun i=>some (i * p.2.2.1,p.2.2.1)) z parts (fun cs=>K (.agg cs.toArray)) D () ()) D () ()) D () ()) () () := build_e parts
theorem mk_eH : mkVCH Γ t (.int k a) (.int k' b) L K2 D () () () = oMH (elS Γ.P t) (fun p=>oMH (zr Γ.P p.1) (fun z=>(0 ≤ a ∧ a ≤ b ∧ b * p.2.2 ≤ 281474976710656 ∧ b ≤ 9223372036854775807 ∧ z.length = p.2.1) ∧ ∀ bk,stK (K2 (.slice (some ⟨bk,0,none⟩) a.toNat b.toNat) (some (bk,.cells (zerosV z b.toNat).toArray p.1 (0,0)) :: L)) ()) D () ()) D () () := mk_e 
theorem cv_eH (s d : TypeId) (str : ByteArray) : cvVCH Γ s d (.string str) L K2 D D2 () () () () = oMH (Γ.P.underlying s) (fun _=>oMH (Γ.P.underlying d) (fun u=>cvDH u Γ.P str L K2 D () () ()) D () ()) D () () := cv_e s d str
theorem ops_nilH {Q : Env → Hp → Prop} : VCopsH Γ n ops [] Q T L () () () () () = Q T L := ops_nil 
theorem ops_consH {Q : Env → Hp → Prop} (o : Oper) (r : List Oper) : VCopsH Γ n ops (o :: r) Q T L () () () () () = guardVCH ops o.guard T (fun T=>VCH Γ o T L (fun v L=>putVCH n o.dst v T (fun T=>VCopsH Γ n ops r Q T L () () () () ()) () ()) () () () ()) (fun T=>putVCH n o.dst undef T (fun T=>VCopsH Γ n ops r Q T L () () () () ()) () ()) () () () () := ops_cons o r
theorem qops_nilH {Q : Env → Prop} : VQopsH Γ n ops L [] Q T () () () () () = Q T := qops_nil 
theorem qops_consH {Q : Env → Prop} (o : Oper) (r : List Oper) : VQopsH Γ n ops L (o :: r) Q T () () () () () = guardVCH ops o.guard T (fun T=>VQH Γ o T L (fun v=>putVCH n o.dst v T (fun T=>VQopsH Γ n ops L r Q T () () () () ()) () ()) () () () ()) (fun T=>putVCH n o.dst undef T (fun T=>VQopsH Γ n ops L r Q T () () () () ()) () ()) () () () () := qops_cons o r
theorem ld_eH : ldVCH Γ t (.pointer (some ad)) L K D () () () = loadVCH Γ t L ad K () () := ld_e 
theorem st_eH (v : Value) : stVCH Γ t (.pointer (some ad)) v L K3 D () () () = storeVCH Γ t ad v L K3 () () := st_e v
theorem call_eH (f : FuncId) (fi ca as_ : Array Value) : callVCH Γ (.func (.func f) fi ca) as_ L K2 D () () () = (callable Γ.P f = true ∧ SCall Γ f ((fi ++ as_ ++ ca)) L (fun v L=>stK (K2 v L) ())) := call_e f fi ca as_
theorem qcall_eH (f : FuncId) (fi ca as_ : Array Value) : qcallVCH Γ (.func (.func f) fi ca) as_ L K D () () () = (callable Γ.P f = true ∧ ∃ v,SCall Γ f ((fi ++ as_ ++ ca)) L (fun v' L'=>v' = v ∧ L' = L) ∧ stK (K v) ()) := qcall_e f fi ca as_
theorem eqla_eH {k : TypeId} (x y : Array Value) : binVCH P .eql k (.agg x) (.agg y) K D () () = aggEqH P k x y (fun r=>stK (K (.bool r)) ()) () := eqla_e x y
theorem neqa_eH {k : TypeId} (x y : Array Value) : binVCH P .neq k (.agg x) (.agg y) K D () () = aggEqH P k x y (fun r=>stK (K (.bool (!r))) ()) () := neqa_e x y
theorem rg_eH (s : ByteArray) : rgVCH Γ t (.string s) L K2 D () () () = (Γ.P.underlying t = some .string ∧ ∀ b,stK (K2 (.pointer (some ⟨b,0,none⟩)) (some (b,.stringIter s 0) :: L)) ()) := rg_e s
theorem nx_eH (b : Nat) : nxVCH (.pointer (some ⟨b,0,none⟩)) L K2 D () () () = ∃ (i : Nat) (s : ByteArray) (pos : Nat),L[i]? = some (some (b,.stringIter s pos)) ∧ if pos < s.size then stK (K2 (.tuple #[.bool true,.int .i64 pos,.int .i32 (Utf8.decode s pos).1]) (L.set i (some (b,.stringIter s (pos + (Utf8.decode s pos).2))))) () else stK (K2 (.tuple #[.bool false]) L) () := nx_e b
theorem mu_eH (r : Nat) (x y : Value) : muVCH Γ t (.map (some r)) x y L K3 D () () () = ∃ kd z,mapT Γ.P t = some (kd,z) ∧ ∃ (i : Nat) (es : List MapEntry) (ck : Nat),L[i]? = some (some (r,.map es.toArray ck)) ∧ ∃ fr,Instr.findNow kd x es 0 = some fr ∧ stK (K3 (L.set i (some (r,mapPut es ck x y fr)))) () := mu_e r x y
theorem istr_eH (s : ByteArray) : indexVCH P t (.string s) (.int k a) K D () () = (P.underlying t = some .string ∧ 0 ≤ a ∧ ∃ b : UInt8,s.data.toList[a.toNat]? = some b ∧ stK (K (.int .u8 (b.toNat : Int))) ()) := istr_e s
theorem store_eH {t : TypeId} {v : Value} : storeVCH Γ t ad v L K3 () () = ((szA Γ.P t).map (·.1) = some v.cells.size ∧ oneB v.cells.toList = true ∧ ad.spot = none ∧ ∃ (i : Nat) (cs : List Value) (t' : TypeId) (fr : Nat × Nat),L[i]? = some (some (ad.block,.cells cs.toArray t' fr)) ∧ ad.off + v.cells.size ≤ cs.length ∧ (ad.off + v.cells.size ≤ fr.1 ∨ fr.2 ≤ ad.off) ∧ stK (K3 (L.set i (some (ad.block,.cells (setN cs ad.off v.cells.toList).toArray t' fr)))) ()) := store_e 
end
section
variable {P : Program} {Γ : Ctx} {t : TypeId} {k k' : IntKind} {a b : Int} {K : Value → Prop} {D : Prop} {L : Hp} {ad : Addr} {K2 : Value → Hp → Prop} {D1 D2 : Prop}
theorem bin_addH : binVCH P .add t (.int k a) (.int k' b) K D () () = (k = k' ∧ K (.int k (k.wrap (a + b)))) := bin_add 
theorem bin_subH : binVCH P .sub t (.int k a) (.int k' b) K D () () = (k = k' ∧ K (.int k (k.wrap (a - b)))) := bin_sub 
theorem bin_mulH : binVCH P .mul t (.int k a) (.int k' b) K D () () = (k = k' ∧ K (.int k (k.wrap (a * b)))) := bin_mul 
theorem bin_quoH : binVCH P .quo t (.int k a) (.int k' b) K D () () = (k = k' ∧ b ≠ 0 ∧ K (.int k (k.wrap (a.tdiv b)))) := bin_quo 
theorem bin_remH : binVCH P .rem t (.int k a) (.int k' b) K D () () = (k = k' ∧ b ≠ 0 ∧ K (.int k (a.tmod b))) := bin_rem 
theorem bin_andH : binVCH P .and t (.int k a) (.int k' b) K D () () = (k = k' ∧ K (.int k (bits .and k a b))) := bin_and 
theorem bin_orH : binVCH P .or t (.int k a) (.int k' b) K D () () = (k = k' ∧ K (.int k (bits .or k a b))) := bin_or 
theorem bin_xorH : binVCH P .xor t (.int k a) (.int k' b) K D () () = (k = k' ∧ K (.int k (bits .xor k a b))) := bin_xor 
theorem bin_andNotH : binVCH P .andNot t (.int k a) (.int k' b) K D () () = (k = k' ∧ K (.int k (bits .andNot k a b))) := bin_andNot 
theorem bin_shlH : binVCH P .shl t (.int k a) (.int k' b) K D () () = (0 ≤ b ∧ K (.int k (k.wrap (a * 2 ^ (min b.toNat k.bits))))) := bin_shl 
theorem bin_shrH : binVCH P .shr t (.int k a) (.int k' b) K D () () = (0 ≤ b ∧ K (.int k (a.fdiv (2 ^ (min b.toNat k.bits))))) := bin_shr 
theorem bin_eqlH : binVCH P .eql t (.int k a) (.int k' b) K D () () = (k = k' ∧ K (.bool (decide (a = b)))) := bin_eql 
theorem bin_neqH : binVCH P .neq t (.int k a) (.int k' b) K D () () = (k = k' ∧ K (.bool (!decide (a = b)))) := bin_neq 
theorem bin_lssH : binVCH P .lss t (.int k a) (.int k' b) K D () () = (k = k' ∧ K (.bool (decide (a < b)))) := bin_lss 
theorem bin_leqH : binVCH P .leq t (.int k a) (.int k' b) K D () () = (k = k' ∧ K (.bool (decide (a ≤ b)))) := bin_leq 
theorem bin_gtrH : binVCH P .gtr t (.int k a) (.int k' b) K D () () = (k = k' ∧ K (.bool (decide (b < a)))) := bin_gtr 
theorem bin_geqH : binVCH P .geq t (.int k a) (.int k' b) K D () () = (k = k' ∧ K (.bool (decide (b ≤ a)))) := bin_geq 
theorem bin_eqlbH (x y : Bool) : binVCH P .eql t (.bool x) (.bool y) K D () () = (P.underlying t = some .bool ∧ K (.bool (x == y))) := bin_eqlb x y
theorem bin_neqbH (x y : Bool) : binVCH P .neq t (.bool x) (.bool y) K D () () = (P.underlying t = some .bool ∧ K (.bool (!(x == y)))) := bin_neqb x y
theorem bin_addsH (x y : ByteArray) : binVCH P .add t (.string x) (.string y) K D () () = (x.size + y.size ≤ 9223372036854775807 ∧ K (.string (x ++ y))) := bin_adds x y
theorem bin_eqlsH (x y : ByteArray) : binVCH P .eql t (.string x) (.string y) K D () () = K (.bool (decide (x = y))) := bin_eqls x y
theorem bin_neqsH (x y : ByteArray) : binVCH P .neq t (.string x) (.string y) K D () () = K (.bool (!decide (x = y))) := bin_neqs x y
theorem bin_eqlpnH {p : Option Addr} : binVCH P .eql t (.pointer p) (.pointer none) K D () () = (ptB P t = true ∧ K (.bool p.isNone)) := bin_eqlpn 
theorem bin_neqpnH {p : Option Addr} : binVCH P .neq t (.pointer p) (.pointer none) K D () () = (ptB P t = true ∧ K (.bool (!p.isNone))) := bin_neqpn 
theorem bin_eqlppH {p q : Addr} : binVCH P .eql t (.pointer (some p)) (.pointer (some q)) K D () () = (ptB P t = true ∧ p = q ∧ K (.bool true)) := bin_eqlpp 
theorem bin_neqppH {p q : Addr} : binVCH P .neq t (.pointer (some p)) (.pointer (some q)) K D () () = (ptB P t = true ∧ p = q ∧ K (.bool false)) := bin_neqpp 
theorem bin_eqlsnH {p : Option Addr} {n c : Nat} : binVCH P .eql t (.slice p n c) (.slice none 0 0) K D () () = ((elS P t).isSome = true ∧ K (.bool p.isNone)) := bin_eqlsn 
theorem bin_neqsnH {p : Option Addr} {n c : Nat} : binVCH P .neq t (.slice p n c) (.slice none 0 0) K D () () = ((elS P t).isSome = true ∧ K (.bool (!p.isNone))) := bin_neqsn 
theorem un_notH (x : Bool) : unVCH .not (.bool x) K D () () = K (.bool (!x)) := un_not x
theorem un_negH : unVCH .neg (.int k a) K D () () = K (.int k (k.wrap (0 - a))) := un_neg 
theorem un_xorH : unVCH .xor (.int k a) K D () () = K (.int k (bits .xor k (if k.signed then -1 else k.max) a)) := un_xor 
theorem pick_boolH (c : Bool) (x y : Value) : pickVCH (.bool c) x y K D () () = K (if c then x else y) := pick_bool c x y
theorem nil_ptrH : nilVCH (.pointer (some ad)) K D () () = K (.pointer (some ad)) := nil_ptr 
theorem min_intH : minVCH (.int k a) (.int k' b) K D () () = K (.int k (if b < a then b else a)) := min_int 
theorem max_intH : maxVCH (.int k a) (.int k' b) K D () () = K (.int k (if b > a then b else a)) := max_int 
theorem len_sliceH (base : Option Addr) (n c : Nat) : lenVCH P t (.slice base n c) K D () () = ((elS P t).isSome = true ∧ K (.int .i64 n)) := len_slice base n c
theorem len_strH (s : ByteArray) : lenVCH P t (.string s) K D () () = (P.underlying t = some .string ∧ K (.int .i64 s.size)) := len_str s
theorem cap_sliceH (base : Option Addr) (n c : Nat) : capVCH P t (.slice base n c) K D () () = ((elS P t).isSome = true ∧ K (.int .i64 c)) := cap_slice base n c
theorem lk_mapH (r : Nat) (x : Value) (ok : Bool) : lkVCH Γ t (.map (some r)) x ok L K D () () () = ∃ kd z,mapT Γ.P t = some (kd,z) ∧ ∃ (i : Nat) (es : List MapEntry) (ck : Nat),L[i]? = some (some (r,.map es.toArray ck)) ∧ ∃ fr,Instr.findNow kd x es 0 = some fr ∧ fndKH z ok fr K () := lk_map r x ok
theorem lk_nilH (x : Value) (ok : Bool) : lkVCH Γ t (.map none) x ok L K D () () () = ∃ kd z,mapT Γ.P t = some (kd,z) ∧ fndKH z ok none K () := lk_nil x ok
theorem fnd_someH (z : Option Value) (ok : Bool) (i : Nat) (v : Value) : fndKH z ok (some (i,v)) K () = K (if ok then .tuple #[v,.bool true] else v) := fnd_some z ok i v
theorem cv_intH (s d : TypeId) : cvVCH Γ s d (.int k a) L K2 D D2 () () () () = D2 := cv_int s d
theorem cv_sliceH (s d : TypeId) (A : Option Addr) (n c : Nat) : cvVCH Γ s d (.slice A n c) L K2 D D2 () () () () = D2 := cv_slice s d A n c
theorem fnd_noneH (z : Value) (ok : Bool) : fndKH (some z) ok none K () = K (if ok then .tuple #[z,.bool false] else z) := fnd_none z ok
theorem loadN_zH (i : Nat) (acc : List Value) : loadNH Γ L ad i 0 acc K () () = K (.agg acc.toArray) := rfl
theorem loadN_sH (i n : Nat) (acc : List Value) : loadNH Γ L ad i (n + 1) acc K () () = ∃ v,Cell Γ L (ad.add i) v ∧ loadNH Γ L ad (i + 1) n (acc ++ [v]) K () () := rfl
theorem ldV_H {v : Value} : ldVC Γ t v L K D = ldVCH Γ t v L K D () () () := rfl
theorem ops_H {n : Nat} {ops : Array Oper} {l : List Oper} {Q : Env → Hp → Prop} {T : Env} : VCops Γ n ops l Q T L = VCopsV Γ n ops l Q T L () () () () := rfl
theorem opsV_H {n : Nat} {ops : Array Oper} {l : List Oper} {Q : Env → Hp → Prop} {T : Env} : VCopsV Γ n ops l Q T L () () () () = VCopsH Γ n ops l Q T L () () () () () := rfl
theorem qopsV_H {n : Nat} {ops : Array Oper} {l : List Oper} {Q : Env → Prop} {T : Env} : VQopsV Γ n ops L l Q T () () () () = VQopsH Γ n ops L l Q T () () () () () := rfl
theorem qops_H {n : Nat} {ops : Array Oper} {l : List Oper} {Q : Env → Prop} {T : Env} : VQops Γ n ops L l Q T = VQopsV Γ n ops L l Q T () () () () := rfl
theorem plan_H {n : Nat} {ops : Array Oper} {G : Hp → Hp} {pl : List (Nat × Kd)} {Q : Env → Hp → Prop} {T : Env} : VCplan Γ n ops G pl Q T L = VCplanH Γ n ops G pl Q T L () () () () () := rfl
end
end Go.SX
namespace Go.SX
open Go.RowKit
theorem w32 {n : Int} (h : -2147483648 ≤ n ∧ n ≤ 2147483647) : IntKind.i32.wrap n = n := by rw [IntKind.wrap_i32]; omega
theorem wu32 {n : Int} (h : 0 ≤ n ∧ n ≤ 4294967295) : IntKind.u32.wrap n = n := by rw [IntKind.wrap_u32]; omega
theorem wu64 {n : Int} (h : 0 ≤ n ∧ n ≤ 18446744073709551615) : IntKind.u64.wrap n = n := by rw [IntKind.wrap_u64]; omega
theorem ltT {a b : Int} (h : a < b) : (a < b) = True := eq_true h
theorem ltF {a b : Int} (h : ¬ a < b) : (a < b) = False := eq_false h
theorem leT {a b : Int} (h : a ≤ b) : (a ≤ b) = True := eq_true h
theorem leF {a b : Int} (h : ¬ a ≤ b) : (a ≤ b) = False := eq_false h
theorem eqT {a b : Int} (h : a = b) : (a = b) = True := eq_true h
theorem eqF {a b : Int} (h : ¬ a = b) : (a = b) = False := eq_false h
attribute [go_sem] ldV_H VQ_moveH VC_moveH VQ_assignH VC_assignH VQ_pickH VC_pickH VQ_loadH VC_loadH VQ_nilCheckH VC_nilCheckH VQ_unOpH VC_unOpH VQ_binOpH VC_binOpH VQ_makeFuncH VC_makeFuncH VQ_fieldAddrH VC_fieldAddrH VQ_fieldH VC_fieldH VQ_indexAddrH VC_indexAddrH VQ_indexH VC_indexH VQ_sliceH VC_sliceH VQ_extractH VC_extractH VQ_buildH VC_buildH VQ_lookupH VC_lookupH VQ_lenH VC_lenH VQ_capH VC_capH VQ_minH VC_minH VQ_maxH VC_maxH VQ_convertH VQ_callH VC_allocH VC_boxH VC_storeH VC_buildSliceH VC_makeSliceH VC_rangeH VC_nextH VC_makeMapH VC_mapUpdateH VC_insertH VC_convertH VC_appendH VC_copyH VC_callH loadVC_eH plan_nilH plan_qH plan_cH plan_eH plan_tH ops_nilH ops_consH qops_nilH qops_consH ops_H qops_H plan_H opsV_H qopsV_H upd_app env0_zero env0_succ env0_nil ev andThen_normal andThen_ret andThen_exit inBlk_normal inBlk_ret inBlk_exit if_true if_false Bool.not_true Bool.not_false Bool.false_eq_true Bool.true_eq_false true_and and_true false_and and_false true_implies forall_const false_implies ne_eq not_true_eq_false not_false_eq_true decide_true decide_false and_self true_or or_true dite_true dite_false Bool.not_eq_true' Bool.not_eq_false' decide_eq_true_eq decide_eq_false_iff_not Decidable.not_not Bool.not_eq_true Bool.not_eq_false Int.natCast_inj beq_self_eq_true Bool.and_true Bool.true_and Bool.and_self Bool.and_false Bool.false_and eq_self less_refl_t less_drop_t Option.map_some Option.map_none Option.bind_some Option.bind_none Option.isSome_some Option.isSome_none Option.some.injEq List.getElem?_cons_zero List.getElem?_cons_succ List.getElem?_nil List.getElem?_toArray List.map_cons List.map_nil List.map_toArray List.toList_toArray List.append_toArray List.nil_append List.cons_append List.append_nil List.flatMap_cons List.flatMap_nil List.length_cons List.length_nil List.set_cons_zero List.set_cons_succ List.drop_zero List.drop_succ_cons List.take_succ_cons List.take_zero List.size_toArray Nat.add_zero Nat.zero_add Nat.mul_one exists_const Nat.zero_le Nat.le_refl Int.toNat_natCast Int.toNat_zero Int.toNat_one cells_int cells_bool cells_string cells_pointer cells_slice cells_agg oneB_nil oneB_cons one_int one_bool one_string one_pointer one_slice one_map one_func one_nilFunc one_nilIface one_iface cells_map cells_func cells_nilFunc cells_nilIface cells_iface optI placeL setN store_eH inOrd catV bin_addH bin_subH bin_mulH bin_quoH bin_remH bin_andH bin_orH bin_xorH bin_andNotH bin_shlH bin_shrH bin_eqlH bin_neqH bin_lssH bin_leqH bin_gtrH bin_geqH bin_eqlbH bin_neqbH bin_addsH bin_eqlsH bin_neqsH un_notH un_negH un_xorH pick_boolH nil_ptrH min_intH max_intH istr_eH len_sliceH len_strH cap_sliceH cv_intH cv_sliceH kbits_u8 kbits_u16 kbits_i64 kbits_u64 part_eH fa_eH field_eH index_eH ext_eH ia_anyH ia_ptrH intD_intH conv_eH sl_strH sl_slH sl_arr0H sl_arr1H build_eH mk_eH cv_eH oM_someH oM_noneH gB_boolH guard_noneH guard_someH put_noneH put_someH strD_stringH box_eH bs_eH cvD_sliceH cvD_stringH ld_eH st_eH call_eH qcall_eH rg_eH nx_eH mu_eH lk_mapH lk_nilH fnd_someH fnd_noneH bin_eqlpnH bin_neqpnH bin_eqlppH bin_neqppH bin_eqlsnH bin_neqsnH eqla_eH neqa_eH Option.isNone_some Option.isNone_none evP_nil evP_cons fillK_nilH fillK_consH id_eq loadN_sH
attribute [go_sem] add_addS wu8 wu16 w32 wu32 wu64 w64 ltT ltF leT leF eqT eqF loadN_zH loadN_sH
attribute [go_sem] Nat.reduceEqDiff Nat.reduceBEq reduceCtorEq Int.reduceEq Nat.reduceLT Nat.reduceLeDiff Nat.reduceAdd Nat.reduceMul Nat.reduceSub Int.reduceToNat Int.reduceLT Int.reduceLE Int.reduceAdd Int.reduceSub Int.reduceMul Int.reduceNeg Nat.reducePow Int.reducePow
attribute [go_sem ↓] reduceIte
end Go.SX
namespace Go.Proofs.YtgioegdjeodpiaaGreat
attribute [go_sem] T.szA_1 T.zr_1 Tryz.underlying1 T.szA_2 T.zr_2 Tryz.underlying2 T.szA_3 T.zr_3 Tryz.underlying3 T.szA_4 T.zr_4 Tryz.underlying4 T.szA_5 T.zr_5 Tryz.underlying5 T.szA_6 T.zr_6 Tryz.underlying6 T.szA_7 T.zr_7 T.lay_7 T.elA_7 Tryz.underlying7 T.szA_8 T.zr_8 T.lay_8 T.elA_8 Tryz.underlying8 T.szA_9 T.zr_9 Tryz.underlying9 T.szA_10 T.zr_10 Tryz.underlying10 T.szA_11 T.zr_11 Tryz.underlying11 T.szA_12 T.zr_12 Tryz.underlying12 T.szA_13 T.zr_13 T.lay_13 T.elA_13 Tryz.underlying13 T.szA_14 T.zr_14 T.lay_14 T.elA_14 Tryz.underlying14 T.szA_15 T.zr_15 T.ptB_15 Tryz.underlying15 T.szA_16 T.zr_16 T.ptB_16 Tryz.underlying16 T.szA_17 T.zr_17 T.ptB_17 Tryz.underlying17 T.szA_18 T.zr_18 T.lay_18 T.elA_18 Tryz.underlying18 T.szA_19 T.zr_19 T.lay_19 T.elA_19 Tryz.underlying19 T.szA_20 T.zr_20 Tryz.underlying20 T.szA_21 T.zr_21 Tryz.underlying21 T.szA_22 T.zr_22 T.elA_22 T.lay_22 Tryz.underlying22 T.szA_23 T.zr_23 Tryz.underlying23 T.szA_24 T.zr_24 T.elS_24 Tryz.underlying24 T.szA_25 T.zr_25 T.elS_25 Tryz.underlying25 T.szA_26 T.zr_26 T.lay_26 T.elA_26 Tryz.underlying26 T.szA_27 T.zr_27 T.lay_27 T.elA_27 Tryz.underlying27 T.szA_28 T.zr_28 T.elA_28 T.lay_28 Tryz.underlying28 T.szA_29 T.zr_29 T.lay_29 T.elA_29 Tryz.underlying29 T.szA_30 T.zr_30 T.lay_30 T.elA_30 Tryz.underlying30 T.szA_31 T.zr_31 T.elS_31 Tryz.underlying31 T.szA_32 T.zr_32 Tryz.underlying32 T.szA_33 T.zr_33 Tryz.underlying33 T.szA_34 T.zr_34 Tryz.underlying34 T.szA_36 T.zr_36 Tryz.underlying36 T.szA_37 T.zr_37 T.lay_37 T.elA_37 Tryz.underlying37 T.szA_38 T.zr_38 T.lay_38 T.elA_38 Tryz.underlying38 T.szA_39 T.zr_39 T.lay_39 T.elA_39 Tryz.underlying39 T.szA_40 T.zr_40 T.lay_40 T.elA_40 Tryz.underlying40 T.szA_41 T.zr_41 Tryz.underlying41 T.szA_42 T.zr_42 Tryz.underlying42 T.szA_43 T.zr_43 Tryz.underlying43 T.szA_44 T.zr_44 Tryz.underlying44 T.szA_45 T.zr_45 Tryz.underlying45 T.szA_46 T.zr_46 Tryz.underlying46 T.szA_47 T.zr_47 Tryz.underlying47 T.szA_49 T.zr_49 Tryz.underlying49 T.szA_51 T.zr_51 Tryz.underlying51 T.szA_52 T.zr_52 Tryz.underlying52 T.szA_53 T.zr_53 Tryz.underlying53 T.szA_54 T.zr_54 Tryz.underlying54 T.szA_55 T.zr_55 T.ptB_55 Tryz.underlying55 T.szA_56 T.zr_56 T.elS_56 Tryz.underlying56 T.szA_57 T.zr_57 Tryz.underlying57 T.szA_58 T.zr_58 Tryz.underlying58 T.szA_59 T.zr_59 T.lay_59 T.elA_59 Tryz.underlying59 T.szA_60 T.zr_60 T.lay_60 T.elA_60 Tryz.underlying60 T.szA_62 T.zr_62 Tryz.underlying62 T.szA_63 T.zr_63 T.ptB_63 Tryz.underlying63 T.szA_64 T.zr_64 T.lay_64 T.elA_64 Tryz.underlying64 T.szA_65 T.zr_65 T.lay_65 T.elA_65 Tryz.underlying65 T.szA_66 T.zr_66 Tryz.underlying66 T.szA_67 T.zr_67 T.mapT_67 Tryz.underlying67 T.szA_68 T.zr_68 Tryz.underlying68 T.szA_69 T.zr_69 Tryz.underlying69 T.szA_71 T.zr_71 Tryz.underlying71 T.szA_72 T.zr_72 Tryz.underlying72 T.szA_74 T.zr_74 Tryz.underlying74 T.szA_75 T.zr_75 Tryz.underlying75 T.szA_76 T.zr_76 Tryz.underlying76 T.szA_77 T.zr_77 Tryz.underlying77 T.szA_78 T.zr_78 Tryz.underlying78 T.szA_79 T.zr_79 Tryz.underlying79 T.szA_80 T.zr_80 T.elS_80 Tryz.underlying80 T.szA_81 T.zr_81 T.lay_81 T.elA_81 Tryz.underlying81 T.szA_82 T.zr_82 T.lay_82 T.elA_82 Tryz.underlying82 T.szA_84 T.zr_84 Tryz.underlying84 T.szA_85 T.zr_85 Tryz.underlying85 T.szA_86 T.zr_86 Tryz.underlying86 T.szA_87 T.zr_87 T.lay_87 T.elA_87 Tryz.underlying87 T.szA_88 T.zr_88 T.lay_88 T.elA_88 Tryz.underlying88 T.szA_89 T.zr_89 T.ptB_89 Tryz.underlying89 T.szA_90 T.zr_90 Tryz.underlying90 T.szA_91 T.zr_91 Tryz.underlying91 T.szA_92 T.zr_92 Tryz.underlying92 T.szA_93 T.zr_93 Tryz.underlying93 T.szA_94 T.zr_94 Tryz.underlying94 T.szA_96 T.zr_96 Tryz.underlying96 T.szA_98 T.zr_98 Tryz.underlying98 T.szA_99 T.zr_99 Tryz.underlying99 T.szA_100 T.zr_100 T.elS_100 Tryz.underlying100 T.szA_101 T.zr_101 Tryz.underlying101 T.szA_102 T.zr_102 T.lay_102 T.elA_102 Tryz.underlying102 T.szA_103 T.zr_103 T.lay_103 T.elA_103 Tryz.underlying103 T.szA_104 T.zr_104 Tryz.underlying104 T.szA_105 T.zr_105 Tryz.underlying105 T.szA_106 T.zr_106 Tryz.underlying106 T.szA_108 T.zr_108 Tryz.underlying108 T.szA_109 T.zr_109 T.elS_109 Tryz.underlying109 T.szA_110 T.zr_110 Tryz.underlying110 T.szA_112 T.zr_112 Tryz.underlying112 T.szA_113 T.zr_113 Tryz.underlying113 T.szA_114 T.zr_114 Tryz.underlying114 T.szA_115 T.zr_115 Tryz.underlying115 T.szA_116 T.zr_116 Tryz.underlying116 T.szA_117 T.zr_117 Tryz.underlying117 T.szA_118 T.zr_118 Tryz.underlying118 T.szA_119 T.zr_119 Tryz.underlying119 T.szA_120 T.zr_120 T.lay_120 T.elA_120 Tryz.underlying120 T.szA_121 T.zr_121 T.lay_121 T.elA_121 Tryz.underlying121 T.szA_122 T.zr_122 T.elA_122 T.lay_122 Tryz.underlying122 T.szA_123 T.zr_123 T.lay_123 T.elA_123 Tryz.underlying123 T.szA_124 T.zr_124 T.lay_124 T.elA_124 Tryz.underlying124 T.szA_125 T.zr_125 Tryz.underlying125 T.szA_126 T.zr_126 Tryz.underlying126 T.szA_127 T.zr_127 Tryz.underlying127 T.szA_128 T.zr_128 Tryz.underlying128 T.szA_129 T.zr_129 Tryz.underlying129 T.szA_130 T.zr_130 Tryz.underlying130 T.szA_131 T.zr_131 Tryz.underlying131 T.szA_132 T.zr_132 T.lay_132 T.elA_132 Tryz.underlying132 T.szA_133 T.zr_133 T.lay_133 T.elA_133 Tryz.underlying133 T.szA_134 T.zr_134 Tryz.underlying134 T.callable_2 T.callable_3 T.callable_4 T.callable_5 T.callable_6 T.callable_7 T.callable_8 T.callable_9 T.callable_10 T.callable_11 T.callable_12 T.callable_13 T.callable_14 T.callable_15 T.callable_16 T.callable_17 T.callable_18 T.callable_19 T.callable_20 T.callable_21 T.callable_22 T.callable_23 T.callable_24 T.callable_25 T.callable_26 T.callable_27 T.callable_28 T.callable_29 T.callable_30 T.callable_31 T.callable_32 T.callable_33 T.callable_34 T.callable_35 T.callable_36 T.callable_37 T.callable_38 T.callable_39 T.callable_40 T.callable_41 T.callable_42 T.callable_43 T.callable_44 T.callable_45 T.callable_46 T.callable_47 T.callable_48 T.callable_49 T.callable_50 T.callable_51 T.callable_52 T.callable_53 T.callable_54 T.callable_55 T.callable_56 T.callable_57 T.callable_58 T.callable_59 T.callable_60 T.callable_61 T.callable_62 T.callable_63 T.callable_64 T.callable_65 T.callable_66 T.callable_67 T.callable_68 T.callable_69 T.callable_70 T.callable_71 T.callable_72 T.callable_73 T.callable_74 T.callable_75 T.callable_76 T.callable_77 T.callable_78 T.callable_79 T.callable_80 T.callable_81 T.callable_82 T.callable_83 T.callable_84 T.callable_85 T.callable_86 T.callable_87 T.callable_88 T.callable_89 T.callable_90 T.callable_91 T.callable_92 T.callable_93 T.callable_94 T.callable_95 T.callable_96 T.callable_97 T.callable_98 T.callable_99 T.callable_100 T.callable_101 T.callable_102 T.callable_103 T.callable_104 T.callable_105 T.callable_106 T.callable_107
end Go.Proofs.YtgioegdjeodpiaaGreat
namespace Go.Proofs.YtgioegdjeodpiaaGreat
open Go.RowKit Go.SX
open Go.SX renaming add_addS → Φa, ia_someH → Φb, stK_e → Φc, forall_mem_cons' → Φd, forall_mem_nil' → Φe

inductive Fd where
 | x | y | n | b | a
deriving DecidableEq
def Fd.shift : Fd → Nat
 | .x=>8 | .y=>4 | _=>0
def Fd.dig : Fd → Nat
 | .b=>2 | .a=>3 | _=>1
def Fd.ahead : Fd → ByteArray
 | .x=>⟨#[118]⟩ | .y=>⟨#[118]⟩ | _=>⟨#[]⟩
def Fd.get : Fd → Nat
 | .x=>98 | .y=>100 | .n=>102 | .b=>104 | .a=>106
def Fd.put : Fd → Nat
 | .x=>99 | .y=>101 | .n=>103 | .b=>105 | .a=>107
def Fd.cells (f : Fd) : List Value := [.int .i64 (f.shift : Int),.int .i64 (f.dig : Int),.string f.ahead,.func (.func f.get) #[] #[],.func (.func f.put) #[] #[]]
structure RowT where
 op : Nat
 mask : Nat
 word : Nat
 name : ByteArray
 fs : List Fd
def table : List RowT := [
 ⟨2,65535,224,⟨#[99,108,101,97,114]⟩,[]⟩,
 ⟨3,65535,238,⟨#[114,101,116,117,114,110]⟩,[]⟩,
 ⟨1,61440,0,⟨#[109,97,99,104,105,110,101]⟩,[.a]⟩,
 ⟨4,61440,4096,⟨#[106,117,109,112]⟩,[.a]⟩,
 ⟨5,61440,8192,⟨#[99,97,108,108]⟩,[.a]⟩,
 ⟨6,61440,12288,⟨#[115,107,105,112,45,105,115]⟩,[.x,.b]⟩,
 ⟨7,61440,16384,⟨#[115,107,105,112,45,110,111,116]⟩,[.x,.b]⟩,
 ⟨8,61455,20480,⟨#[115,107,105,112,45,115,97,109,101]⟩,[.x,.y]⟩,
 ⟨9,61440,24576,⟨#[115,101,116]⟩,[.x,.b]⟩,
 ⟨10,61440,28672,⟨#[97,100,100]⟩,[.x,.b]⟩,
 ⟨11,61455,32768,⟨#[109,111,118,101]⟩,[.x,.y]⟩,
 ⟨12,61455,32769,⟨#[111,114]⟩,[.x,.y]⟩,
 ⟨13,61455,32770,⟨#[97,110,100]⟩,[.x,.y]⟩,
 ⟨14,61455,32772,⟨#[112,108,117,115]⟩,[.x,.y]⟩,
 ⟨15,61455,32773,⟨#[109,105,110,117,115]⟩,[.x,.y]⟩,
 ⟨16,61455,36864,⟨#[115,107,105,112,45,111,116,104,101,114]⟩,[.x,.y]⟩,
 ⟨17,61440,40960,⟨#[112,111,105,110,116]⟩,[.a]⟩,
 ⟨18,61440,45056,⟨#[106,117,109,112,45,98,121]⟩,[.a]⟩,
 ⟨19,61440,49152,⟨#[114,97,110,100,111,109]⟩,[.x,.b]⟩,
 ⟨20,61440,53248,⟨#[100,114,97,119]⟩,[.x,.y,.n]⟩,
 ⟨21,61695,57502,⟨#[115,107,105,112,45,100,111,119,110]⟩,[.x]⟩,
 ⟨22,61695,57505,⟨#[115,107,105,112,45,117,112]⟩,[.x]⟩,
 ⟨23,61695,61447,⟨#[116,105,109,101,114]⟩,[.x]⟩,
 ⟨24,61695,61450,⟨#[107,101,121]⟩,[.x]⟩,
 ⟨25,61695,61461,⟨#[100,101,108,97,121]⟩,[.x]⟩,
 ⟨26,61695,61464,⟨#[115,111,117,110,100]⟩,[.x]⟩,
 ⟨27,61695,61470,⟨#[111,110]⟩,[.x]⟩,
 ⟨28,61695,61481,⟨#[100,105,103,105,116]⟩,[.x]⟩,
 ⟨29,61695,61491,⟨#[116,104,114,101,101]⟩,[.x]⟩,
 ⟨30,61695,61525,⟨#[115,116,111,114,101]⟩,[.x]⟩,
 ⟨31,61695,61541,⟨#[102,105,108,108]⟩,[.x]⟩]
theorem Fd.cells_len (f : Fd) : f.cells.length = 5 := rfl
theorem Fd.one (f : Fd) : oneB f.cells = true := rfl
theorem SlS.own {α : Type} {sz : Nat} {f : α → List Value} {Γ : Ctx} {L : Hp} {l : List α} {b n : Nat} {e : TypeId} {fr : Nat × Nat} (hf : ∀ x,(f x).length = sz) (i : Nat) (hn : n = l.length) (hL : L[i]? = some (some (b,.cells (l.flatMap f).toArray e fr))) :
  SlS sz f (Cell Γ L) (.slice (some ⟨b,0,none⟩) n n) l := by
 subst hn
 refine ⟨_,_,rfl,Nat.le_refl _,fun j x hj=>⟨_,rfl,fun k u hu=>?_⟩⟩
 have hk : k < sz := by have := (List.getElem?_eq_some_iff.1 hu).1; rw [hf] at this; exact this
 rw [add_addS,Addr.add_lit,Nat.zero_add]
 exact Cell.at i hL (by rw [flat_at hf hj hk]; exact hu)
theorem SlS.none {α : Type} {sz : Nat} {f : α → List Value} {C : Addr → Value → Prop} : SlS sz f C (.slice none 0 0) [] := ⟨_,0,rfl,Nat.le_refl _,fun j x hj=>by simp at hj⟩
def RowAt (C : Addr → Value → Prop) (a : Addr) (fv : Value) (r : RowT) : Prop :=
 C a (.int .u8 (r.op : Int)) ∧ C (a.add 1) (.int .u16 (r.mask : Int)) ∧ C (a.add 2) (.int .u16 (r.word : Int)) ∧ C (a.add 3) (.string r.name) ∧ C (a.add 4) fv ∧ SlS 5 Fd.cells C fv r.fs
def rowsR (Γ : Ctx) (L : Hp) (v : Value) (L' : Hp) : Prop :=
 ∃ (H : Hp) (a : Addr),v = .slice (some a) 31 31 ∧ L' = H ++ L ∧ ∀ j r,table[j]? = some r → ∃ fv,∀ K : Hp,RowAt (Cell Γ (H ++ K)) (a.add (j * 5)) fv r
set_option maxHeartbeats 1000000 in
set_option maxRecDepth 100000 in
theorem rows_spec {Γ : Ctx} (hP : Γ.P = Tryz.prog) {L : Hp}  :
  SCall Γ 90 #[] L (rowsR Γ L) := by
 refine SCall.enter (n := 115) (res1 0) (hP ▸ Tryz.func90) rfl rfl (by simp) (res1_ok rfl) ?_
 refine SX.seq_k fun K1 hK1=>?_
 refine SX.region ?_
 simp only [go_sem,Φc,Φa,Φb,hP]
 refine hK1 _ _ ?_
 try clear hK1 K1
 refine SX.seq_k fun K2 hK2=>?_
 refine SX.region ?_
 simp only [go_sem,Φc,Φa,Φb,hP]
 intro kx
 refine ⟨0,_,_,_,rfl,by decide,.inr (by decide),?_⟩
 try simp only [go_sem,Φc,Φa,Φb,hP]
 refine hK2 _ _ ?_
 try clear hK2 K2
 refine SX.seq_k fun K3 hK3=>?_
 refine SX.region ?_
 simp only [go_sem,Φc,Φa,Φb,hP]
 intro ky
 refine ⟨0,_,_,_,rfl,by decide,.inr (by decide),?_⟩
 try simp only [go_sem,Φc,Φa,Φb,hP]
 refine hK3 _ _ ?_
 try clear hK3 K3
 refine SX.seq_k fun K4 hK4=>?_
 refine SX.region ?_
 simp only [go_sem,Φc,Φa,Φb,hP]
 intro kn
 refine ⟨0,_,_,_,rfl,by decide,.inr (by decide),?_⟩
 try simp only [go_sem,Φc,Φa,Φb,hP]
 refine hK4 _ _ ?_
 try clear hK4 K4
 refine SX.seq_k fun K5 hK5=>?_
 refine SX.region ?_
 simp only [go_sem,Φc,Φa,Φb,hP]
 intro kb
 refine ⟨0,_,_,_,rfl,by decide,.inr (by decide),?_⟩
 try simp only [go_sem,Φc,Φa,Φb,hP]
 refine hK5 _ _ ?_
 try clear hK5 K5
 refine SX.live [1,2,3,4] (fun T1 hT1=>?_)
 simp only [go_sem,Φc,Φa,Φb,Φd,Φe,hP] at hT1
 obtain ⟨h1_1,h1_2,h1_3,h1_4⟩ := hT1
 refine SX.seq_k fun K6 hK6=>?_
 refine SX.region ?_
 simp only [go_sem,Φc,Φa,Φb,hP,h1_1,h1_2,h1_3,h1_4]
 intro ka
 refine ⟨0,_,_,_,rfl,by decide,.inr (by decide),?_⟩
 try simp only [go_sem,Φc,Φa,Φb,hP,h1_1,h1_2,h1_3,h1_4]
 refine hK6 _ _ ?_
 try clear hK6 K6
 refine SX.seq_k fun K7 hK7=>?_
 refine SX.region_x ?_
 simp only [List.append_eq,List.cons_append,List.nil_append]
 refine RX.cut_k 5 fun K8 hK8=>?_
 simp only [go_sem,Φc,Φa,Φb,hP,h1_1,h1_2,h1_3,h1_4]
 (iterate 5 refine ⟨_,Cell.at 0 rfl rfl,?_⟩)
 try simp only [go_sem,Φc,Φa,Φb,hP,h1_1,h1_2,h1_3,h1_4]
 intro s2
 refine hK8 _ _ ?_
 try clear hK8 K8
 refine RX.live [1,2,3,4,5,11,12,15] (fun T2 hT2=>?_)
 simp only [go_sem,Φc,Φa,Φb,Φd,Φe,hP,h1_1,h1_2,h1_3,h1_4] at hT2
 obtain ⟨h2_1,h2_2,h2_3,h2_4,h2_5,h2_11,h2_12,h2_15⟩ := hT2
 clear h1_1 h1_2 h1_3 h1_4 T1
 refine RX.cut_k 3 fun K9 hK9=>?_
 simp only [go_sem,Φc,Φa,Φb,hP,h2_1,h2_2,h2_3,h2_4,h2_5,h2_11,h2_12,h2_15]
 (iterate 5 refine ⟨_,Cell.at 1 rfl rfl,?_⟩)
 try simp only [go_sem,Φc,Φa,Φb,hP,h2_1,h2_2,h2_3,h2_4,h2_5,h2_11,h2_12,h2_15]
 intro s3
 refine hK9 _ _ ?_
 try clear hK9 K9
 refine RX.live [1,2,3,4,5,11,12,15,18] (fun T3 hT3=>?_)
 simp only [go_sem,Φc,Φa,Φb,Φd,Φe,hP,h2_1,h2_2,h2_3,h2_4,h2_5,h2_11,h2_12,h2_15] at hT3
 obtain ⟨h3_1,h3_2,h3_3,h3_4,h3_5,h3_11,h3_12,h3_15,h3_18⟩ := hT3
 clear h2_1 h2_2 h2_3 h2_4 h2_5 h2_11 h2_12 h2_15 T2
 refine RX.cut_k 3 fun K10 hK10=>?_
 simp only [go_sem,Φc,Φa,Φb,hP,h3_1,h3_2,h3_3,h3_4,h3_5,h3_11,h3_12,h3_15,h3_18]
 (iterate 5 refine ⟨_,Cell.at 2 rfl rfl,?_⟩)
 try simp only [go_sem,Φc,Φa,Φb,hP,h3_1,h3_2,h3_3,h3_4,h3_5,h3_11,h3_12,h3_15,h3_18]
 intro s4
 refine hK10 _ _ ?_
 try clear hK10 K10
 refine RX.live [1,2,3,4,5,11,12,15,18,21] (fun T4 hT4=>?_)
 simp only [go_sem,Φc,Φa,Φb,Φd,Φe,hP,h3_1,h3_2,h3_3,h3_4,h3_5,h3_11,h3_12,h3_15,h3_18] at hT4
 obtain ⟨h4_1,h4_2,h4_3,h4_4,h4_5,h4_11,h4_12,h4_15,h4_18,h4_21⟩ := hT4
 clear h3_1 h3_2 h3_3 h3_4 h3_5 h3_11 h3_12 h3_15 h3_18 T3
 refine RX.cut_k 4 fun K11 hK11=>?_
 simp only [go_sem,Φc,Φa,Φb,hP,h4_1,h4_2,h4_3,h4_4,h4_5,h4_11,h4_12,h4_15,h4_18,h4_21]
 refine ⟨_,Cell.at 7 rfl rfl,_,Cell.at 7 rfl rfl,_,Cell.at 7 rfl rfl,_,Cell.at 7 rfl rfl,_,Cell.at 7 rfl rfl,_,Cell.at 4 rfl rfl,_,Cell.at 4 rfl rfl,_,Cell.at 4 rfl rfl,_,Cell.at 4 rfl rfl,_,Cell.at 4 rfl rfl,?_⟩
 try simp only [go_sem,Φc,Φa,Φb,hP,h4_1,h4_2,h4_3,h4_4,h4_5,h4_11,h4_12,h4_15,h4_18,h4_21]
 intro s5
 refine hK11 _ _ ?_
 try clear hK11 K11
 refine RX.live [1,2,3,4,5,11,12,15,18,21,25] (fun T5 hT5=>?_)
 simp only [go_sem,Φc,Φa,Φb,Φd,Φe,hP,h4_1,h4_2,h4_3,h4_4,h4_5,h4_11,h4_12,h4_15,h4_18,h4_21] at hT5
 obtain ⟨h5_1,h5_2,h5_3,h5_4,h5_5,h5_11,h5_12,h5_15,h5_18,h5_21,h5_25⟩ := hT5
 clear h4_1 h4_2 h4_3 h4_4 h4_5 h4_11 h4_12 h4_15 h4_18 h4_21 T4
 refine RX.cut_k 4 fun K12 hK12=>?_
 simp only [go_sem,Φc,Φa,Φb,hP,h5_1,h5_2,h5_3,h5_4,h5_5,h5_11,h5_12,h5_15,h5_18,h5_21,h5_25]
 refine ⟨_,Cell.at 8 rfl rfl,_,Cell.at 8 rfl rfl,_,Cell.at 8 rfl rfl,_,Cell.at 8 rfl rfl,_,Cell.at 8 rfl rfl,_,Cell.at 5 rfl rfl,_,Cell.at 5 rfl rfl,_,Cell.at 5 rfl rfl,_,Cell.at 5 rfl rfl,_,Cell.at 5 rfl rfl,?_⟩
 try simp only [go_sem,Φc,Φa,Φb,hP,h5_1,h5_2,h5_3,h5_4,h5_5,h5_11,h5_12,h5_15,h5_18,h5_21,h5_25]
 intro s6
 refine hK12 _ _ ?_
 try clear hK12 K12
 refine RX.live [1,2,3,4,5,11,12,15,18,21,25,29] (fun T6 hT6=>?_)
 simp only [go_sem,Φc,Φa,Φb,Φd,Φe,hP,h5_1,h5_2,h5_3,h5_4,h5_5,h5_11,h5_12,h5_15,h5_18,h5_21,h5_25] at hT6
 obtain ⟨h6_1,h6_2,h6_3,h6_4,h6_5,h6_11,h6_12,h6_15,h6_18,h6_21,h6_25,h6_29⟩ := hT6
 clear h5_1 h5_2 h5_3 h5_4 h5_5 h5_11 h5_12 h5_15 h5_18 h5_21 h5_25 T5
 refine RX.cut_k 4 fun K13 hK13=>?_
 simp only [go_sem,Φc,Φa,Φb,hP,h6_1,h6_2,h6_3,h6_4,h6_5,h6_11,h6_12,h6_15,h6_18,h6_21,h6_25,h6_29]
 refine ⟨_,Cell.at 9 rfl rfl,_,Cell.at 9 rfl rfl,_,Cell.at 9 rfl rfl,_,Cell.at 9 rfl rfl,_,Cell.at 9 rfl rfl,_,Cell.at 8 rfl rfl,_,Cell.at 8 rfl rfl,_,Cell.at 8 rfl rfl,_,Cell.at 8 rfl rfl,_,Cell.at 8 rfl rfl,?_⟩
 try simp only [go_sem,Φc,Φa,Φb,hP,h6_1,h6_2,h6_3,h6_4,h6_5,h6_11,h6_12,h6_15,h6_18,h6_21,h6_25,h6_29]
 intro s7
 refine hK13 _ _ ?_
 try clear hK13 K13
 refine RX.live [1,2,3,4,5,11,12,15,18,21,25,29,33] (fun T7 hT7=>?_)
 simp only [go_sem,Φc,Φa,Φb,Φd,Φe,hP,h6_1,h6_2,h6_3,h6_4,h6_5,h6_11,h6_12,h6_15,h6_18,h6_21,h6_25,h6_29] at hT7
 obtain ⟨h7_1,h7_2,h7_3,h7_4,h7_5,h7_11,h7_12,h7_15,h7_18,h7_21,h7_25,h7_29,h7_33⟩ := hT7
 clear h6_1 h6_2 h6_3 h6_4 h6_5 h6_11 h6_12 h6_15 h6_18 h6_21 h6_25 h6_29 T6
 refine RX.cut_k 4 fun K14 hK14=>?_
 simp only [go_sem,Φc,Φa,Φb,hP,h7_1,h7_2,h7_3,h7_4,h7_5,h7_11,h7_12,h7_15,h7_18,h7_21,h7_25,h7_29,h7_33]
 refine ⟨_,Cell.at 10 rfl rfl,_,Cell.at 10 rfl rfl,_,Cell.at 10 rfl rfl,_,Cell.at 10 rfl rfl,_,Cell.at 10 rfl rfl,_,Cell.at 7 rfl rfl,_,Cell.at 7 rfl rfl,_,Cell.at 7 rfl rfl,_,Cell.at 7 rfl rfl,_,Cell.at 7 rfl rfl,?_⟩
 try simp only [go_sem,Φc,Φa,Φb,hP,h7_1,h7_2,h7_3,h7_4,h7_5,h7_11,h7_12,h7_15,h7_18,h7_21,h7_25,h7_29,h7_33]
 intro s8
 refine hK14 _ _ ?_
 try clear hK14 K14
 refine RX.live [1,2,3,4,5,11,12,15,18,21,25,29,33,37] (fun T8 hT8=>?_)
 simp only [go_sem,Φc,Φa,Φb,Φd,Φe,hP,h7_1,h7_2,h7_3,h7_4,h7_5,h7_11,h7_12,h7_15,h7_18,h7_21,h7_25,h7_29,h7_33] at hT8
 obtain ⟨h8_1,h8_2,h8_3,h8_4,h8_5,h8_11,h8_12,h8_15,h8_18,h8_21,h8_25,h8_29,h8_33,h8_37⟩ := hT8
 clear h7_1 h7_2 h7_3 h7_4 h7_5 h7_11 h7_12 h7_15 h7_18 h7_21 h7_25 h7_29 h7_33 T7
 refine RX.cut_k 4 fun K15 hK15=>?_
 simp only [go_sem,Φc,Φa,Φb,hP,h8_1,h8_2,h8_3,h8_4,h8_5,h8_11,h8_12,h8_15,h8_18,h8_21,h8_25,h8_29,h8_33,h8_37]
 refine ⟨_,Cell.at 11 rfl rfl,_,Cell.at 11 rfl rfl,_,Cell.at 11 rfl rfl,_,Cell.at 11 rfl rfl,_,Cell.at 11 rfl rfl,_,Cell.at 8 rfl rfl,_,Cell.at 8 rfl rfl,_,Cell.at 8 rfl rfl,_,Cell.at 8 rfl rfl,_,Cell.at 8 rfl rfl,?_⟩
 try simp only [go_sem,Φc,Φa,Φb,hP,h8_1,h8_2,h8_3,h8_4,h8_5,h8_11,h8_12,h8_15,h8_18,h8_21,h8_25,h8_29,h8_33,h8_37]
 intro s9
 refine hK15 _ _ ?_
 try clear hK15 K15
 refine RX.live [1,2,3,4,5,11,12,15,18,21,25,29,33,37,41] (fun T9 hT9=>?_)
 simp only [go_sem,Φc,Φa,Φb,Φd,Φe,hP,h8_1,h8_2,h8_3,h8_4,h8_5,h8_11,h8_12,h8_15,h8_18,h8_21,h8_25,h8_29,h8_33,h8_37] at hT9
 obtain ⟨h9_1,h9_2,h9_3,h9_4,h9_5,h9_11,h9_12,h9_15,h9_18,h9_21,h9_25,h9_29,h9_33,h9_37,h9_41⟩ := hT9
 clear h8_1 h8_2 h8_3 h8_4 h8_5 h8_11 h8_12 h8_15 h8_18 h8_21 h8_25 h8_29 h8_33 h8_37 T8
 refine RX.cut_k 4 fun K16 hK16=>?_
 simp only [go_sem,Φc,Φa,Φb,hP,h9_1,h9_2,h9_3,h9_4,h9_5,h9_11,h9_12,h9_15,h9_18,h9_21,h9_25,h9_29,h9_33,h9_37,h9_41]
 refine ⟨_,Cell.at 12 rfl rfl,_,Cell.at 12 rfl rfl,_,Cell.at 12 rfl rfl,_,Cell.at 12 rfl rfl,_,Cell.at 12 rfl rfl,_,Cell.at 11 rfl rfl,_,Cell.at 11 rfl rfl,_,Cell.at 11 rfl rfl,_,Cell.at 11 rfl rfl,_,Cell.at 11 rfl rfl,?_⟩
 try simp only [go_sem,Φc,Φa,Φb,hP,h9_1,h9_2,h9_3,h9_4,h9_5,h9_11,h9_12,h9_15,h9_18,h9_21,h9_25,h9_29,h9_33,h9_37,h9_41]
 intro s10
 refine hK16 _ _ ?_
 try clear hK16 K16
 refine RX.live [1,2,3,4,5,11,12,15,18,21,25,29,33,37,41,45] (fun T10 hT10=>?_)
 simp only [go_sem,Φc,Φa,Φb,Φd,Φe,hP,h9_1,h9_2,h9_3,h9_4,h9_5,h9_11,h9_12,h9_15,h9_18,h9_21,h9_25,h9_29,h9_33,h9_37,h9_41] at hT10
 obtain ⟨h10_1,h10_2,h10_3,h10_4,h10_5,h10_11,h10_12,h10_15,h10_18,h10_21,h10_25,h10_29,h10_33,h10_37,h10_41,h10_45⟩ := hT10
 clear h9_1 h9_2 h9_3 h9_4 h9_5 h9_11 h9_12 h9_15 h9_18 h9_21 h9_25 h9_29 h9_33 h9_37 h9_41 T9
 refine RX.cut_k 4 fun K17 hK17=>?_
 simp only [go_sem,Φc,Φa,Φb,hP,h10_1,h10_2,h10_3,h10_4,h10_5,h10_11,h10_12,h10_15,h10_18,h10_21,h10_25,h10_29,h10_33,h10_37,h10_41,h10_45]
 refine ⟨_,Cell.at 13 rfl rfl,_,Cell.at 13 rfl rfl,_,Cell.at 13 rfl rfl,_,Cell.at 13 rfl rfl,_,Cell.at 13 rfl rfl,_,Cell.at 12 rfl rfl,_,Cell.at 12 rfl rfl,_,Cell.at 12 rfl rfl,_,Cell.at 12 rfl rfl,_,Cell.at 12 rfl rfl,?_⟩
 try simp only [go_sem,Φc,Φa,Φb,hP,h10_1,h10_2,h10_3,h10_4,h10_5,h10_11,h10_12,h10_15,h10_18,h10_21,h10_25,h10_29,h10_33,h10_37,h10_41,h10_45]
 intro s11
 refine hK17 _ _ ?_
 try clear hK17 K17
 refine RX.live [1,2,3,4,5,11,12,15,18,21,25,29,33,37,41,45,49] (fun T11 hT11=>?_)
 simp only [go_sem,Φc,Φa,Φb,Φd,Φe,hP,h10_1,h10_2,h10_3,h10_4,h10_5,h10_11,h10_12,h10_15,h10_18,h10_21,h10_25,h10_29,h10_33,h10_37,h10_41,h10_45] at hT11
 obtain ⟨h11_1,h11_2,h11_3,h11_4,h11_5,h11_11,h11_12,h11_15,h11_18,h11_21,h11_25,h11_29,h11_33,h11_37,h11_41,h11_45,h11_49⟩ := hT11
 clear h10_1 h10_2 h10_3 h10_4 h10_5 h10_11 h10_12 h10_15 h10_18 h10_21 h10_25 h10_29 h10_33 h10_37 h10_41 h10_45 T10
 refine RX.cut_k 4 fun K18 hK18=>?_
 simp only [go_sem,Φc,Φa,Φb,hP,h11_1,h11_2,h11_3,h11_4,h11_5,h11_11,h11_12,h11_15,h11_18,h11_21,h11_25,h11_29,h11_33,h11_37,h11_41,h11_45,h11_49]
 refine ⟨_,Cell.at 14 rfl rfl,_,Cell.at 14 rfl rfl,_,Cell.at 14 rfl rfl,_,Cell.at 14 rfl rfl,_,Cell.at 14 rfl rfl,_,Cell.at 13 rfl rfl,_,Cell.at 13 rfl rfl,_,Cell.at 13 rfl rfl,_,Cell.at 13 rfl rfl,_,Cell.at 13 rfl rfl,?_⟩
 try simp only [go_sem,Φc,Φa,Φb,hP,h11_1,h11_2,h11_3,h11_4,h11_5,h11_11,h11_12,h11_15,h11_18,h11_21,h11_25,h11_29,h11_33,h11_37,h11_41,h11_45,h11_49]
 intro s12
 refine hK18 _ _ ?_
 try clear hK18 K18
 refine RX.live [1,2,3,4,5,11,12,15,18,21,25,29,33,37,41,45,49,53] (fun T12 hT12=>?_)
 simp only [go_sem,Φc,Φa,Φb,Φd,Φe,hP,h11_1,h11_2,h11_3,h11_4,h11_5,h11_11,h11_12,h11_15,h11_18,h11_21,h11_25,h11_29,h11_33,h11_37,h11_41,h11_45,h11_49] at hT12
 obtain ⟨h12_1,h12_2,h12_3,h12_4,h12_5,h12_11,h12_12,h12_15,h12_18,h12_21,h12_25,h12_29,h12_33,h12_37,h12_41,h12_45,h12_49,h12_53⟩ := hT12
 clear h11_1 h11_2 h11_3 h11_4 h11_5 h11_11 h11_12 h11_15 h11_18 h11_21 h11_25 h11_29 h11_33 h11_37 h11_41 h11_45 h11_49 T11
 refine RX.cut_k 4 fun K19 hK19=>?_
 simp only [go_sem,Φc,Φa,Φb,hP,h12_1,h12_2,h12_3,h12_4,h12_5,h12_11,h12_12,h12_15,h12_18,h12_21,h12_25,h12_29,h12_33,h12_37,h12_41,h12_45,h12_49,h12_53]
 refine ⟨_,Cell.at 15 rfl rfl,_,Cell.at 15 rfl rfl,_,Cell.at 15 rfl rfl,_,Cell.at 15 rfl rfl,_,Cell.at 15 rfl rfl,_,Cell.at 14 rfl rfl,_,Cell.at 14 rfl rfl,_,Cell.at 14 rfl rfl,_,Cell.at 14 rfl rfl,_,Cell.at 14 rfl rfl,?_⟩
 try simp only [go_sem,Φc,Φa,Φb,hP,h12_1,h12_2,h12_3,h12_4,h12_5,h12_11,h12_12,h12_15,h12_18,h12_21,h12_25,h12_29,h12_33,h12_37,h12_41,h12_45,h12_49,h12_53]
 intro s13
 refine hK19 _ _ ?_
 try clear hK19 K19
 refine RX.live [1,2,3,4,5,11,12,15,18,21,25,29,33,37,41,45,49,53,57] (fun T13 hT13=>?_)
 simp only [go_sem,Φc,Φa,Φb,Φd,Φe,hP,h12_1,h12_2,h12_3,h12_4,h12_5,h12_11,h12_12,h12_15,h12_18,h12_21,h12_25,h12_29,h12_33,h12_37,h12_41,h12_45,h12_49,h12_53] at hT13
 obtain ⟨h13_1,h13_2,h13_3,h13_4,h13_5,h13_11,h13_12,h13_15,h13_18,h13_21,h13_25,h13_29,h13_33,h13_37,h13_41,h13_45,h13_49,h13_53,h13_57⟩ := hT13
 clear h12_1 h12_2 h12_3 h12_4 h12_5 h12_11 h12_12 h12_15 h12_18 h12_21 h12_25 h12_29 h12_33 h12_37 h12_41 h12_45 h12_49 h12_53 T12
 refine RX.cut_k 4 fun K20 hK20=>?_
 simp only [go_sem,Φc,Φa,Φb,hP,h13_1,h13_2,h13_3,h13_4,h13_5,h13_11,h13_12,h13_15,h13_18,h13_21,h13_25,h13_29,h13_33,h13_37,h13_41,h13_45,h13_49,h13_53,h13_57]
 refine ⟨_,Cell.at 16 rfl rfl,_,Cell.at 16 rfl rfl,_,Cell.at 16 rfl rfl,_,Cell.at 16 rfl rfl,_,Cell.at 16 rfl rfl,_,Cell.at 15 rfl rfl,_,Cell.at 15 rfl rfl,_,Cell.at 15 rfl rfl,_,Cell.at 15 rfl rfl,_,Cell.at 15 rfl rfl,?_⟩
 try simp only [go_sem,Φc,Φa,Φb,hP,h13_1,h13_2,h13_3,h13_4,h13_5,h13_11,h13_12,h13_15,h13_18,h13_21,h13_25,h13_29,h13_33,h13_37,h13_41,h13_45,h13_49,h13_53,h13_57]
 intro s14
 refine hK20 _ _ ?_
 try clear hK20 K20
 refine RX.live [1,2,3,4,5,11,12,15,18,21,25,29,33,37,41,45,49,53,57,61] (fun T14 hT14=>?_)
 simp only [go_sem,Φc,Φa,Φb,Φd,Φe,hP,h13_1,h13_2,h13_3,h13_4,h13_5,h13_11,h13_12,h13_15,h13_18,h13_21,h13_25,h13_29,h13_33,h13_37,h13_41,h13_45,h13_49,h13_53,h13_57] at hT14
 obtain ⟨h14_1,h14_2,h14_3,h14_4,h14_5,h14_11,h14_12,h14_15,h14_18,h14_21,h14_25,h14_29,h14_33,h14_37,h14_41,h14_45,h14_49,h14_53,h14_57,h14_61⟩ := hT14
 clear h13_1 h13_2 h13_3 h13_4 h13_5 h13_11 h13_12 h13_15 h13_18 h13_21 h13_25 h13_29 h13_33 h13_37 h13_41 h13_45 h13_49 h13_53 h13_57 T13
 refine RX.cut_k 4 fun K21 hK21=>?_
 simp only [go_sem,Φc,Φa,Φb,hP,h14_1,h14_2,h14_3,h14_4,h14_5,h14_11,h14_12,h14_15,h14_18,h14_21,h14_25,h14_29,h14_33,h14_37,h14_41,h14_45,h14_49,h14_53,h14_57,h14_61]
 refine ⟨_,Cell.at 17 rfl rfl,_,Cell.at 17 rfl rfl,_,Cell.at 17 rfl rfl,_,Cell.at 17 rfl rfl,_,Cell.at 17 rfl rfl,_,Cell.at 16 rfl rfl,_,Cell.at 16 rfl rfl,_,Cell.at 16 rfl rfl,_,Cell.at 16 rfl rfl,_,Cell.at 16 rfl rfl,?_⟩
 try simp only [go_sem,Φc,Φa,Φb,hP,h14_1,h14_2,h14_3,h14_4,h14_5,h14_11,h14_12,h14_15,h14_18,h14_21,h14_25,h14_29,h14_33,h14_37,h14_41,h14_45,h14_49,h14_53,h14_57,h14_61]
 intro s15
 refine hK21 _ _ ?_
 try clear hK21 K21
 refine RX.live [1,2,3,4,5,11,12,15,18,21,25,29,33,37,41,45,49,53,57,61,65] (fun T15 hT15=>?_)
 simp only [go_sem,Φc,Φa,Φb,Φd,Φe,hP,h14_1,h14_2,h14_3,h14_4,h14_5,h14_11,h14_12,h14_15,h14_18,h14_21,h14_25,h14_29,h14_33,h14_37,h14_41,h14_45,h14_49,h14_53,h14_57,h14_61] at hT15
 obtain ⟨h15_1,h15_2,h15_3,h15_4,h15_5,h15_11,h15_12,h15_15,h15_18,h15_21,h15_25,h15_29,h15_33,h15_37,h15_41,h15_45,h15_49,h15_53,h15_57,h15_61,h15_65⟩ := hT15
 clear h14_1 h14_2 h14_3 h14_4 h14_5 h14_11 h14_12 h14_15 h14_18 h14_21 h14_25 h14_29 h14_33 h14_37 h14_41 h14_45 h14_49 h14_53 h14_57 h14_61 T14
 refine RX.cut_k 3 fun K22 hK22=>?_
 simp only [go_sem,Φc,Φa,Φb,hP,h15_1,h15_2,h15_3,h15_4,h15_5,h15_11,h15_12,h15_15,h15_18,h15_21,h15_25,h15_29,h15_33,h15_37,h15_41,h15_45,h15_49,h15_53,h15_57,h15_61,h15_65]
 (iterate 5 refine ⟨_,Cell.at 14 rfl rfl,?_⟩)
 try simp only [go_sem,Φc,Φa,Φb,hP,h15_1,h15_2,h15_3,h15_4,h15_5,h15_11,h15_12,h15_15,h15_18,h15_21,h15_25,h15_29,h15_33,h15_37,h15_41,h15_45,h15_49,h15_53,h15_57,h15_61,h15_65]
 intro s16
 refine hK22 _ _ ?_
 try clear hK22 K22
 refine RX.live [1,2,3,4,5,11,12,15,18,21,25,29,33,37,41,45,49,53,57,61,65,68] (fun T16 hT16=>?_)
 simp only [go_sem,Φc,Φa,Φb,Φd,Φe,hP,h15_1,h15_2,h15_3,h15_4,h15_5,h15_11,h15_12,h15_15,h15_18,h15_21,h15_25,h15_29,h15_33,h15_37,h15_41,h15_45,h15_49,h15_53,h15_57,h15_61,h15_65] at hT16
 obtain ⟨h16_1,h16_2,h16_3,h16_4,h16_5,h16_11,h16_12,h16_15,h16_18,h16_21,h16_25,h16_29,h16_33,h16_37,h16_41,h16_45,h16_49,h16_53,h16_57,h16_61,h16_65,h16_68⟩ := hT16
 clear h15_1 h15_2 h15_3 h15_4 h15_5 h15_11 h15_12 h15_15 h15_18 h15_21 h15_25 h15_29 h15_33 h15_37 h15_41 h15_45 h15_49 h15_53 h15_57 h15_61 h15_65 T15
 refine RX.cut_k 3 fun K23 hK23=>?_
 simp only [go_sem,Φc,Φa,Φb,hP,h16_1,h16_2,h16_3,h16_4,h16_5,h16_11,h16_12,h16_15,h16_18,h16_21,h16_25,h16_29,h16_33,h16_37,h16_41,h16_45,h16_49,h16_53,h16_57,h16_61,h16_65,h16_68]
 (iterate 5 refine ⟨_,Cell.at 15 rfl rfl,?_⟩)
 try simp only [go_sem,Φc,Φa,Φb,hP,h16_1,h16_2,h16_3,h16_4,h16_5,h16_11,h16_12,h16_15,h16_18,h16_21,h16_25,h16_29,h16_33,h16_37,h16_41,h16_45,h16_49,h16_53,h16_57,h16_61,h16_65,h16_68]
 intro s17
 refine hK23 _ _ ?_
 try clear hK23 K23
 refine RX.live [1,2,3,4,11,12,15,18,21,25,29,33,37,41,45,49,53,57,61,65,68,71] (fun T17 hT17=>?_)
 simp only [go_sem,Φc,Φa,Φb,Φd,Φe,hP,h16_1,h16_2,h16_3,h16_4,h16_5,h16_11,h16_12,h16_15,h16_18,h16_21,h16_25,h16_29,h16_33,h16_37,h16_41,h16_45,h16_49,h16_53,h16_57,h16_61,h16_65,h16_68] at hT17
 obtain ⟨h17_1,h17_2,h17_3,h17_4,h17_11,h17_12,h17_15,h17_18,h17_21,h17_25,h17_29,h17_33,h17_37,h17_41,h17_45,h17_49,h17_53,h17_57,h17_61,h17_65,h17_68,h17_71⟩ := hT17
 clear h16_1 h16_2 h16_3 h16_4 h16_5 h16_11 h16_12 h16_15 h16_18 h16_21 h16_25 h16_29 h16_33 h16_37 h16_41 h16_45 h16_49 h16_53 h16_57 h16_61 h16_65 h16_68 T16
 refine RX.cut_k 4 fun K24 hK24=>?_
 simp only [go_sem,Φc,Φa,Φb,hP,h17_1,h17_2,h17_3,h17_4,h17_11,h17_12,h17_15,h17_18,h17_21,h17_25,h17_29,h17_33,h17_37,h17_41,h17_45,h17_49,h17_53,h17_57,h17_61,h17_65,h17_68,h17_71]
 refine ⟨_,Cell.at 20 rfl rfl,_,Cell.at 20 rfl rfl,_,Cell.at 20 rfl rfl,_,Cell.at 20 rfl rfl,_,Cell.at 20 rfl rfl,_,Cell.at 17 rfl rfl,_,Cell.at 17 rfl rfl,_,Cell.at 17 rfl rfl,_,Cell.at 17 rfl rfl,_,Cell.at 17 rfl rfl,?_⟩
 try simp only [go_sem,Φc,Φa,Φb,hP,h17_1,h17_2,h17_3,h17_4,h17_11,h17_12,h17_15,h17_18,h17_21,h17_25,h17_29,h17_33,h17_37,h17_41,h17_45,h17_49,h17_53,h17_57,h17_61,h17_65,h17_68,h17_71]
 intro s18
 refine hK24 _ _ ?_
 try clear hK24 K24
 refine RX.live [1,2,3,11,12,15,18,21,25,29,33,37,41,45,49,53,57,61,65,68,71,75] (fun T18 hT18=>?_)
 simp only [go_sem,Φc,Φa,Φb,Φd,Φe,hP,h17_1,h17_2,h17_3,h17_4,h17_11,h17_12,h17_15,h17_18,h17_21,h17_25,h17_29,h17_33,h17_37,h17_41,h17_45,h17_49,h17_53,h17_57,h17_61,h17_65,h17_68,h17_71] at hT18
 obtain ⟨h18_1,h18_2,h18_3,h18_11,h18_12,h18_15,h18_18,h18_21,h18_25,h18_29,h18_33,h18_37,h18_41,h18_45,h18_49,h18_53,h18_57,h18_61,h18_65,h18_68,h18_71,h18_75⟩ := hT18
 clear h17_1 h17_2 h17_3 h17_4 h17_11 h17_12 h17_15 h17_18 h17_21 h17_25 h17_29 h17_33 h17_37 h17_41 h17_45 h17_49 h17_53 h17_57 h17_61 h17_65 h17_68 h17_71 T17
 refine RX.cut_k 5 fun K25 hK25=>?_
 simp only [go_sem,Φc,Φa,Φb,hP,h18_1,h18_2,h18_3,h18_11,h18_12,h18_15,h18_18,h18_21,h18_25,h18_29,h18_33,h18_37,h18_41,h18_45,h18_49,h18_53,h18_57,h18_61,h18_65,h18_68,h18_71,h18_75]
 refine ⟨_,Cell.at 21 rfl rfl,_,Cell.at 21 rfl rfl,_,Cell.at 21 rfl rfl,_,Cell.at 21 rfl rfl,_,Cell.at 21 rfl rfl,_,Cell.at 20 rfl rfl,_,Cell.at 20 rfl rfl,_,Cell.at 20 rfl rfl,_,Cell.at 20 rfl rfl,_,Cell.at 20 rfl rfl,_,Cell.at 19 rfl rfl,_,Cell.at 19 rfl rfl,_,Cell.at 19 rfl rfl,_,Cell.at 19 rfl rfl,_,Cell.at 19 rfl rfl,?_⟩
 try simp only [go_sem,Φc,Φa,Φb,hP,h18_1,h18_2,h18_3,h18_11,h18_12,h18_15,h18_18,h18_21,h18_25,h18_29,h18_33,h18_37,h18_41,h18_45,h18_49,h18_53,h18_57,h18_61,h18_65,h18_68,h18_71,h18_75]
 intro s19
 refine hK25 _ _ ?_
 try clear hK25 K25
 refine RX.live [1,11,12,15,18,21,25,29,33,37,41,45,49,53,57,61,65,68,71,75,80] (fun T19 hT19=>?_)
 simp only [go_sem,Φc,Φa,Φb,Φd,Φe,hP,h18_1,h18_2,h18_3,h18_11,h18_12,h18_15,h18_18,h18_21,h18_25,h18_29,h18_33,h18_37,h18_41,h18_45,h18_49,h18_53,h18_57,h18_61,h18_65,h18_68,h18_71,h18_75] at hT19
 obtain ⟨h19_1,h19_11,h19_12,h19_15,h19_18,h19_21,h19_25,h19_29,h19_33,h19_37,h19_41,h19_45,h19_49,h19_53,h19_57,h19_61,h19_65,h19_68,h19_71,h19_75,h19_80⟩ := hT19
 clear h18_1 h18_2 h18_3 h18_11 h18_12 h18_15 h18_18 h18_21 h18_25 h18_29 h18_33 h18_37 h18_41 h18_45 h18_49 h18_53 h18_57 h18_61 h18_65 h18_68 h18_71 h18_75 T18
 refine RX.cut_k 3 fun K26 hK26=>?_
 simp only [go_sem,Φc,Φa,Φb,hP,h19_1,h19_11,h19_12,h19_15,h19_18,h19_21,h19_25,h19_29,h19_33,h19_37,h19_41,h19_45,h19_49,h19_53,h19_57,h19_61,h19_65,h19_68,h19_71,h19_75,h19_80]
 (iterate 5 refine ⟨_,Cell.at 22 rfl rfl,?_⟩)
 try simp only [go_sem,Φc,Φa,Φb,hP,h19_1,h19_11,h19_12,h19_15,h19_18,h19_21,h19_25,h19_29,h19_33,h19_37,h19_41,h19_45,h19_49,h19_53,h19_57,h19_61,h19_65,h19_68,h19_71,h19_75,h19_80]
 intro s20
 refine hK26 _ _ ?_
 try clear hK26 K26
 refine RX.live [1,11,12,15,18,21,25,29,33,37,41,45,49,53,57,61,65,68,71,75,80,83] (fun T20 hT20=>?_)
 simp only [go_sem,Φc,Φa,Φb,Φd,Φe,hP,h19_1,h19_11,h19_12,h19_15,h19_18,h19_21,h19_25,h19_29,h19_33,h19_37,h19_41,h19_45,h19_49,h19_53,h19_57,h19_61,h19_65,h19_68,h19_71,h19_75,h19_80] at hT20
 obtain ⟨h20_1,h20_11,h20_12,h20_15,h20_18,h20_21,h20_25,h20_29,h20_33,h20_37,h20_41,h20_45,h20_49,h20_53,h20_57,h20_61,h20_65,h20_68,h20_71,h20_75,h20_80,h20_83⟩ := hT20
 clear h19_1 h19_11 h19_12 h19_15 h19_18 h19_21 h19_25 h19_29 h19_33 h19_37 h19_41 h19_45 h19_49 h19_53 h19_57 h19_61 h19_65 h19_68 h19_71 h19_75 h19_80 T19
 refine RX.cut_k 3 fun K27 hK27=>?_
 simp only [go_sem,Φc,Φa,Φb,hP,h20_1,h20_11,h20_12,h20_15,h20_18,h20_21,h20_25,h20_29,h20_33,h20_37,h20_41,h20_45,h20_49,h20_53,h20_57,h20_61,h20_65,h20_68,h20_71,h20_75,h20_80,h20_83]
 (iterate 5 refine ⟨_,Cell.at 23 rfl rfl,?_⟩)
 try simp only [go_sem,Φc,Φa,Φb,hP,h20_1,h20_11,h20_12,h20_15,h20_18,h20_21,h20_25,h20_29,h20_33,h20_37,h20_41,h20_45,h20_49,h20_53,h20_57,h20_61,h20_65,h20_68,h20_71,h20_75,h20_80,h20_83]
 intro s21
 refine hK27 _ _ ?_
 try clear hK27 K27
 refine RX.live [1,11,12,15,18,21,25,29,33,37,41,45,49,53,57,61,65,68,71,75,80,83,86] (fun T21 hT21=>?_)
 simp only [go_sem,Φc,Φa,Φb,Φd,Φe,hP,h20_1,h20_11,h20_12,h20_15,h20_18,h20_21,h20_25,h20_29,h20_33,h20_37,h20_41,h20_45,h20_49,h20_53,h20_57,h20_61,h20_65,h20_68,h20_71,h20_75,h20_80,h20_83] at hT21
 obtain ⟨h21_1,h21_11,h21_12,h21_15,h21_18,h21_21,h21_25,h21_29,h21_33,h21_37,h21_41,h21_45,h21_49,h21_53,h21_57,h21_61,h21_65,h21_68,h21_71,h21_75,h21_80,h21_83,h21_86⟩ := hT21
 clear h20_1 h20_11 h20_12 h20_15 h20_18 h20_21 h20_25 h20_29 h20_33 h20_37 h20_41 h20_45 h20_49 h20_53 h20_57 h20_61 h20_65 h20_68 h20_71 h20_75 h20_80 h20_83 T20
 refine RX.cut_k 3 fun K28 hK28=>?_
 simp only [go_sem,Φc,Φa,Φb,hP,h21_1,h21_11,h21_12,h21_15,h21_18,h21_21,h21_25,h21_29,h21_33,h21_37,h21_41,h21_45,h21_49,h21_53,h21_57,h21_61,h21_65,h21_68,h21_71,h21_75,h21_80,h21_83,h21_86]
 (iterate 5 refine ⟨_,Cell.at 24 rfl rfl,?_⟩)
 try simp only [go_sem,Φc,Φa,Φb,hP,h21_1,h21_11,h21_12,h21_15,h21_18,h21_21,h21_25,h21_29,h21_33,h21_37,h21_41,h21_45,h21_49,h21_53,h21_57,h21_61,h21_65,h21_68,h21_71,h21_75,h21_80,h21_83,h21_86]
 intro s22
 refine hK28 _ _ ?_
 try clear hK28 K28
 refine RX.live [1,11,12,15,18,21,25,29,33,37,41,45,49,53,57,61,65,68,71,75,80,83,86,89] (fun T22 hT22=>?_)
 simp only [go_sem,Φc,Φa,Φb,Φd,Φe,hP,h21_1,h21_11,h21_12,h21_15,h21_18,h21_21,h21_25,h21_29,h21_33,h21_37,h21_41,h21_45,h21_49,h21_53,h21_57,h21_61,h21_65,h21_68,h21_71,h21_75,h21_80,h21_83,h21_86] at hT22
 obtain ⟨h22_1,h22_11,h22_12,h22_15,h22_18,h22_21,h22_25,h22_29,h22_33,h22_37,h22_41,h22_45,h22_49,h22_53,h22_57,h22_61,h22_65,h22_68,h22_71,h22_75,h22_80,h22_83,h22_86,h22_89⟩ := hT22
 clear h21_1 h21_11 h21_12 h21_15 h21_18 h21_21 h21_25 h21_29 h21_33 h21_37 h21_41 h21_45 h21_49 h21_53 h21_57 h21_61 h21_65 h21_68 h21_71 h21_75 h21_80 h21_83 h21_86 T21
 refine RX.cut_k 3 fun K29 hK29=>?_
 simp only [go_sem,Φc,Φa,Φb,hP,h22_1,h22_11,h22_12,h22_15,h22_18,h22_21,h22_25,h22_29,h22_33,h22_37,h22_41,h22_45,h22_49,h22_53,h22_57,h22_61,h22_65,h22_68,h22_71,h22_75,h22_80,h22_83,h22_86,h22_89]
 (iterate 5 refine ⟨_,Cell.at 25 rfl rfl,?_⟩)
 try simp only [go_sem,Φc,Φa,Φb,hP,h22_1,h22_11,h22_12,h22_15,h22_18,h22_21,h22_25,h22_29,h22_33,h22_37,h22_41,h22_45,h22_49,h22_53,h22_57,h22_61,h22_65,h22_68,h22_71,h22_75,h22_80,h22_83,h22_86,h22_89]
 intro s23
 refine hK29 _ _ ?_
 try clear hK29 K29
 refine RX.live [1,11,12,15,18,21,25,29,33,37,41,45,49,53,57,61,65,68,71,75,80,83,86,89,92] (fun T23 hT23=>?_)
 simp only [go_sem,Φc,Φa,Φb,Φd,Φe,hP,h22_1,h22_11,h22_12,h22_15,h22_18,h22_21,h22_25,h22_29,h22_33,h22_37,h22_41,h22_45,h22_49,h22_53,h22_57,h22_61,h22_65,h22_68,h22_71,h22_75,h22_80,h22_83,h22_86,h22_89] at hT23
 obtain ⟨h23_1,h23_11,h23_12,h23_15,h23_18,h23_21,h23_25,h23_29,h23_33,h23_37,h23_41,h23_45,h23_49,h23_53,h23_57,h23_61,h23_65,h23_68,h23_71,h23_75,h23_80,h23_83,h23_86,h23_89,h23_92⟩ := hT23
 clear h22_1 h22_11 h22_12 h22_15 h22_18 h22_21 h22_25 h22_29 h22_33 h22_37 h22_41 h22_45 h22_49 h22_53 h22_57 h22_61 h22_65 h22_68 h22_71 h22_75 h22_80 h22_83 h22_86 h22_89 T22
 refine RX.cut_k 3 fun K30 hK30=>?_
 simp only [go_sem,Φc,Φa,Φb,hP,h23_1,h23_11,h23_12,h23_15,h23_18,h23_21,h23_25,h23_29,h23_33,h23_37,h23_41,h23_45,h23_49,h23_53,h23_57,h23_61,h23_65,h23_68,h23_71,h23_75,h23_80,h23_83,h23_86,h23_89,h23_92]
 (iterate 5 refine ⟨_,Cell.at 26 rfl rfl,?_⟩)
 try simp only [go_sem,Φc,Φa,Φb,hP,h23_1,h23_11,h23_12,h23_15,h23_18,h23_21,h23_25,h23_29,h23_33,h23_37,h23_41,h23_45,h23_49,h23_53,h23_57,h23_61,h23_65,h23_68,h23_71,h23_75,h23_80,h23_83,h23_86,h23_89,h23_92]
 intro s24
 refine hK30 _ _ ?_
 try clear hK30 K30
 refine RX.live [1,11,12,15,18,21,25,29,33,37,41,45,49,53,57,61,65,68,71,75,80,83,86,89,92,95] (fun T24 hT24=>?_)
 simp only [go_sem,Φc,Φa,Φb,Φd,Φe,hP,h23_1,h23_11,h23_12,h23_15,h23_18,h23_21,h23_25,h23_29,h23_33,h23_37,h23_41,h23_45,h23_49,h23_53,h23_57,h23_61,h23_65,h23_68,h23_71,h23_75,h23_80,h23_83,h23_86,h23_89,h23_92] at hT24
 obtain ⟨h24_1,h24_11,h24_12,h24_15,h24_18,h24_21,h24_25,h24_29,h24_33,h24_37,h24_41,h24_45,h24_49,h24_53,h24_57,h24_61,h24_65,h24_68,h24_71,h24_75,h24_80,h24_83,h24_86,h24_89,h24_92,h24_95⟩ := hT24
 clear h23_1 h23_11 h23_12 h23_15 h23_18 h23_21 h23_25 h23_29 h23_33 h23_37 h23_41 h23_45 h23_49 h23_53 h23_57 h23_61 h23_65 h23_68 h23_71 h23_75 h23_80 h23_83 h23_86 h23_89 h23_92 T23
 refine RX.cut_k 3 fun K31 hK31=>?_
 simp only [go_sem,Φc,Φa,Φb,hP,h24_1,h24_11,h24_12,h24_15,h24_18,h24_21,h24_25,h24_29,h24_33,h24_37,h24_41,h24_45,h24_49,h24_53,h24_57,h24_61,h24_65,h24_68,h24_71,h24_75,h24_80,h24_83,h24_86,h24_89,h24_92,h24_95]
 (iterate 5 refine ⟨_,Cell.at 27 rfl rfl,?_⟩)
 try simp only [go_sem,Φc,Φa,Φb,hP,h24_1,h24_11,h24_12,h24_15,h24_18,h24_21,h24_25,h24_29,h24_33,h24_37,h24_41,h24_45,h24_49,h24_53,h24_57,h24_61,h24_65,h24_68,h24_71,h24_75,h24_80,h24_83,h24_86,h24_89,h24_92,h24_95]
 intro s25
 refine hK31 _ _ ?_
 try clear hK31 K31
 refine RX.live [1,11,12,15,18,21,25,29,33,37,41,45,49,53,57,61,65,68,71,75,80,83,86,89,92,95,98] (fun T25 hT25=>?_)
 simp only [go_sem,Φc,Φa,Φb,Φd,Φe,hP,h24_1,h24_11,h24_12,h24_15,h24_18,h24_21,h24_25,h24_29,h24_33,h24_37,h24_41,h24_45,h24_49,h24_53,h24_57,h24_61,h24_65,h24_68,h24_71,h24_75,h24_80,h24_83,h24_86,h24_89,h24_92,h24_95] at hT25
 obtain ⟨h25_1,h25_11,h25_12,h25_15,h25_18,h25_21,h25_25,h25_29,h25_33,h25_37,h25_41,h25_45,h25_49,h25_53,h25_57,h25_61,h25_65,h25_68,h25_71,h25_75,h25_80,h25_83,h25_86,h25_89,h25_92,h25_95,h25_98⟩ := hT25
 clear h24_1 h24_11 h24_12 h24_15 h24_18 h24_21 h24_25 h24_29 h24_33 h24_37 h24_41 h24_45 h24_49 h24_53 h24_57 h24_61 h24_65 h24_68 h24_71 h24_75 h24_80 h24_83 h24_86 h24_89 h24_92 h24_95 T24
 refine RX.cut_k 3 fun K32 hK32=>?_
 simp only [go_sem,Φc,Φa,Φb,hP,h25_1,h25_11,h25_12,h25_15,h25_18,h25_21,h25_25,h25_29,h25_33,h25_37,h25_41,h25_45,h25_49,h25_53,h25_57,h25_61,h25_65,h25_68,h25_71,h25_75,h25_80,h25_83,h25_86,h25_89,h25_92,h25_95,h25_98]
 (iterate 5 refine ⟨_,Cell.at 28 rfl rfl,?_⟩)
 try simp only [go_sem,Φc,Φa,Φb,hP,h25_1,h25_11,h25_12,h25_15,h25_18,h25_21,h25_25,h25_29,h25_33,h25_37,h25_41,h25_45,h25_49,h25_53,h25_57,h25_61,h25_65,h25_68,h25_71,h25_75,h25_80,h25_83,h25_86,h25_89,h25_92,h25_95,h25_98]
 intro s26
 refine hK32 _ _ ?_
 try clear hK32 K32
 refine RX.live [1,11,12,15,18,21,25,29,33,37,41,45,49,53,57,61,65,68,71,75,80,83,86,89,92,95,98,101] (fun T26 hT26=>?_)
 simp only [go_sem,Φc,Φa,Φb,Φd,Φe,hP,h25_1,h25_11,h25_12,h25_15,h25_18,h25_21,h25_25,h25_29,h25_33,h25_37,h25_41,h25_45,h25_49,h25_53,h25_57,h25_61,h25_65,h25_68,h25_71,h25_75,h25_80,h25_83,h25_86,h25_89,h25_92,h25_95,h25_98] at hT26
 obtain ⟨h26_1,h26_11,h26_12,h26_15,h26_18,h26_21,h26_25,h26_29,h26_33,h26_37,h26_41,h26_45,h26_49,h26_53,h26_57,h26_61,h26_65,h26_68,h26_71,h26_75,h26_80,h26_83,h26_86,h26_89,h26_92,h26_95,h26_98,h26_101⟩ := hT26
 clear h25_1 h25_11 h25_12 h25_15 h25_18 h25_21 h25_25 h25_29 h25_33 h25_37 h25_41 h25_45 h25_49 h25_53 h25_57 h25_61 h25_65 h25_68 h25_71 h25_75 h25_80 h25_83 h25_86 h25_89 h25_92 h25_95 h25_98 T25
 refine RX.cut_k 3 fun K33 hK33=>?_
 simp only [go_sem,Φc,Φa,Φb,hP,h26_1,h26_11,h26_12,h26_15,h26_18,h26_21,h26_25,h26_29,h26_33,h26_37,h26_41,h26_45,h26_49,h26_53,h26_57,h26_61,h26_65,h26_68,h26_71,h26_75,h26_80,h26_83,h26_86,h26_89,h26_92,h26_95,h26_98,h26_101]
 (iterate 5 refine ⟨_,Cell.at 29 rfl rfl,?_⟩)
 try simp only [go_sem,Φc,Φa,Φb,hP,h26_1,h26_11,h26_12,h26_15,h26_18,h26_21,h26_25,h26_29,h26_33,h26_37,h26_41,h26_45,h26_49,h26_53,h26_57,h26_61,h26_65,h26_68,h26_71,h26_75,h26_80,h26_83,h26_86,h26_89,h26_92,h26_95,h26_98,h26_101]
 intro s27
 refine hK33 _ _ ?_
 try clear hK33 K33
 refine RX.live [1,11,12,15,18,21,25,29,33,37,41,45,49,53,57,61,65,68,71,75,80,83,86,89,92,95,98,101,104] (fun T27 hT27=>?_)
 simp only [go_sem,Φc,Φa,Φb,Φd,Φe,hP,h26_1,h26_11,h26_12,h26_15,h26_18,h26_21,h26_25,h26_29,h26_33,h26_37,h26_41,h26_45,h26_49,h26_53,h26_57,h26_61,h26_65,h26_68,h26_71,h26_75,h26_80,h26_83,h26_86,h26_89,h26_92,h26_95,h26_98,h26_101] at hT27
 obtain ⟨h27_1,h27_11,h27_12,h27_15,h27_18,h27_21,h27_25,h27_29,h27_33,h27_37,h27_41,h27_45,h27_49,h27_53,h27_57,h27_61,h27_65,h27_68,h27_71,h27_75,h27_80,h27_83,h27_86,h27_89,h27_92,h27_95,h27_98,h27_101,h27_104⟩ := hT27
 clear h26_1 h26_11 h26_12 h26_15 h26_18 h26_21 h26_25 h26_29 h26_33 h26_37 h26_41 h26_45 h26_49 h26_53 h26_57 h26_61 h26_65 h26_68 h26_71 h26_75 h26_80 h26_83 h26_86 h26_89 h26_92 h26_95 h26_98 h26_101 T26
 refine RX.cut_k 3 fun K34 hK34=>?_
 simp only [go_sem,Φc,Φa,Φb,hP,h27_1,h27_11,h27_12,h27_15,h27_18,h27_21,h27_25,h27_29,h27_33,h27_37,h27_41,h27_45,h27_49,h27_53,h27_57,h27_61,h27_65,h27_68,h27_71,h27_75,h27_80,h27_83,h27_86,h27_89,h27_92,h27_95,h27_98,h27_101,h27_104]
 (iterate 5 refine ⟨_,Cell.at 30 rfl rfl,?_⟩)
 try simp only [go_sem,Φc,Φa,Φb,hP,h27_1,h27_11,h27_12,h27_15,h27_18,h27_21,h27_25,h27_29,h27_33,h27_37,h27_41,h27_45,h27_49,h27_53,h27_57,h27_61,h27_65,h27_68,h27_71,h27_75,h27_80,h27_83,h27_86,h27_89,h27_92,h27_95,h27_98,h27_101,h27_104]
 intro s28
 refine hK34 _ _ ?_
 try clear hK34 K34
 refine RX.live [1,11,12,15,18,21,25,29,33,37,41,45,49,53,57,61,65,68,71,75,80,83,86,89,92,95,98,101,104,107] (fun T28 hT28=>?_)
 simp only [go_sem,Φc,Φa,Φb,Φd,Φe,hP,h27_1,h27_11,h27_12,h27_15,h27_18,h27_21,h27_25,h27_29,h27_33,h27_37,h27_41,h27_45,h27_49,h27_53,h27_57,h27_61,h27_65,h27_68,h27_71,h27_75,h27_80,h27_83,h27_86,h27_89,h27_92,h27_95,h27_98,h27_101,h27_104] at hT28
 obtain ⟨h28_1,h28_11,h28_12,h28_15,h28_18,h28_21,h28_25,h28_29,h28_33,h28_37,h28_41,h28_45,h28_49,h28_53,h28_57,h28_61,h28_65,h28_68,h28_71,h28_75,h28_80,h28_83,h28_86,h28_89,h28_92,h28_95,h28_98,h28_101,h28_104,h28_107⟩ := hT28
 clear h27_1 h27_11 h27_12 h27_15 h27_18 h27_21 h27_25 h27_29 h27_33 h27_37 h27_41 h27_45 h27_49 h27_53 h27_57 h27_61 h27_65 h27_68 h27_71 h27_75 h27_80 h27_83 h27_86 h27_89 h27_92 h27_95 h27_98 h27_101 h27_104 T27
 refine RX.cut_k 3 fun K35 hK35=>?_
 simp only [go_sem,Φc,Φa,Φb,hP,h28_1,h28_11,h28_12,h28_15,h28_18,h28_21,h28_25,h28_29,h28_33,h28_37,h28_41,h28_45,h28_49,h28_53,h28_57,h28_61,h28_65,h28_68,h28_71,h28_75,h28_80,h28_83,h28_86,h28_89,h28_92,h28_95,h28_98,h28_101,h28_104,h28_107]
 (iterate 5 refine ⟨_,Cell.at 31 rfl rfl,?_⟩)
 try simp only [go_sem,Φc,Φa,Φb,hP,h28_1,h28_11,h28_12,h28_15,h28_18,h28_21,h28_25,h28_29,h28_33,h28_37,h28_41,h28_45,h28_49,h28_53,h28_57,h28_61,h28_65,h28_68,h28_71,h28_75,h28_80,h28_83,h28_86,h28_89,h28_92,h28_95,h28_98,h28_101,h28_104,h28_107]
 intro s29
 refine hK35 _ _ ?_
 try clear hK35 K35
 refine RX.live [1,11,12,15,18,21,25,29,33,37,41,45,49,53,57,61,65,68,71,75,80,83,86,89,92,95,98,101,104,107,110] (fun T29 hT29=>?_)
 simp only [go_sem,Φc,Φa,Φb,Φd,Φe,hP,h28_1,h28_11,h28_12,h28_15,h28_18,h28_21,h28_25,h28_29,h28_33,h28_37,h28_41,h28_45,h28_49,h28_53,h28_57,h28_61,h28_65,h28_68,h28_71,h28_75,h28_80,h28_83,h28_86,h28_89,h28_92,h28_95,h28_98,h28_101,h28_104,h28_107] at hT29
 obtain ⟨h29_1,h29_11,h29_12,h29_15,h29_18,h29_21,h29_25,h29_29,h29_33,h29_37,h29_41,h29_45,h29_49,h29_53,h29_57,h29_61,h29_65,h29_68,h29_71,h29_75,h29_80,h29_83,h29_86,h29_89,h29_92,h29_95,h29_98,h29_101,h29_104,h29_107,h29_110⟩ := hT29
 clear h28_1 h28_11 h28_12 h28_15 h28_18 h28_21 h28_25 h28_29 h28_33 h28_37 h28_41 h28_45 h28_49 h28_53 h28_57 h28_61 h28_65 h28_68 h28_71 h28_75 h28_80 h28_83 h28_86 h28_89 h28_92 h28_95 h28_98 h28_101 h28_104 h28_107 T28
 refine RX.cut_k 3 fun K36 hK36=>?_
 simp only [go_sem,Φc,Φa,Φb,hP,h29_1,h29_11,h29_12,h29_15,h29_18,h29_21,h29_25,h29_29,h29_33,h29_37,h29_41,h29_45,h29_49,h29_53,h29_57,h29_61,h29_65,h29_68,h29_71,h29_75,h29_80,h29_83,h29_86,h29_89,h29_92,h29_95,h29_98,h29_101,h29_104,h29_107,h29_110]
 (iterate 5 refine ⟨_,Cell.at 32 rfl rfl,?_⟩)
 try simp only [go_sem,Φc,Φa,Φb,hP,h29_1,h29_11,h29_12,h29_15,h29_18,h29_21,h29_25,h29_29,h29_33,h29_37,h29_41,h29_45,h29_49,h29_53,h29_57,h29_61,h29_65,h29_68,h29_71,h29_75,h29_80,h29_83,h29_86,h29_89,h29_92,h29_95,h29_98,h29_101,h29_104,h29_107,h29_110]
 intro s30
 refine hK36 _ _ ?_
 try clear hK36 K36
 refine RX.live [11,12,15,18,21,25,29,33,37,41,45,49,53,57,61,65,68,71,75,80,83,86,89,92,95,98,101,104,107,110,113] (fun T30 hT30=>?_)
 simp only [go_sem,Φc,Φa,Φb,Φd,Φe,hP,h29_1,h29_11,h29_12,h29_15,h29_18,h29_21,h29_25,h29_29,h29_33,h29_37,h29_41,h29_45,h29_49,h29_53,h29_57,h29_61,h29_65,h29_68,h29_71,h29_75,h29_80,h29_83,h29_86,h29_89,h29_92,h29_95,h29_98,h29_101,h29_104,h29_107,h29_110] at hT30
 obtain ⟨h30_11,h30_12,h30_15,h30_18,h30_21,h30_25,h30_29,h30_33,h30_37,h30_41,h30_45,h30_49,h30_53,h30_57,h30_61,h30_65,h30_68,h30_71,h30_75,h30_80,h30_83,h30_86,h30_89,h30_92,h30_95,h30_98,h30_101,h30_104,h30_107,h30_110,h30_113⟩ := hT30
 clear h29_1 h29_11 h29_12 h29_15 h29_18 h29_21 h29_25 h29_29 h29_33 h29_37 h29_41 h29_45 h29_49 h29_53 h29_57 h29_61 h29_65 h29_68 h29_71 h29_75 h29_80 h29_83 h29_86 h29_89 h29_92 h29_95 h29_98 h29_101 h29_104 h29_107 h29_110 T29
 refine RX.done ?_
 simp only [go_sem,Φc,Φa,Φb,hP,h30_11,h30_12,h30_15,h30_18,h30_21,h30_25,h30_29,h30_33,h30_37,h30_41,h30_45,h30_49,h30_53,h30_57,h30_61,h30_65,h30_68,h30_71,h30_75,h30_80,h30_83,h30_86,h30_89,h30_92,h30_95,h30_98,h30_101,h30_104,h30_107,h30_110,h30_113]
 intro R
 refine hK7 _ _ ?_
 try clear hK7 K7
 refine SX.ret ?_
 simp only [andThen_normal,andThen_ret,andThen_exit,inBlk_normal,inBlk_ret,inBlk_exit,Nat.reduceEqDiff,if_true,if_false,reduceIte,retQ_ret]
 try simp only [go_sem,Φc,Φa,Φb,res0,res1,res2,res3,hP,h30_11,h30_12,h30_15,h30_18,h30_21,h30_25,h30_29,h30_33,h30_37,h30_41,h30_45,h30_49,h30_53,h30_57,h30_61,h30_65,h30_68,h30_71,h30_75,h30_80,h30_83,h30_86,h30_89,h30_92,h30_95,h30_98,h30_101,h30_104,h30_107,h30_110,h30_113]
 refine ⟨_,_,Less.refl _,rfl,[_,_,_,_,_,_,_,_,_,_,_,_,_,_,_,_,_,_,_,_,_,_,_,_,_,_,_,_,_,_,_,_,_,_,_],⟨R,0,none⟩,rfl,rfl,?_⟩
 intro j r h
 exact match j,r,h with
  | 0,r,h=>by cases h; exact ⟨_,fun K=>⟨Cell.at 0 rfl rfl,Cell.at 0 rfl rfl,Cell.at 0 rfl rfl,Cell.at 0 rfl rfl,Cell.at 0 rfl rfl,SlS.none⟩⟩
  | 1,r,h=>by cases h; exact ⟨_,fun K=>⟨Cell.at 0 rfl rfl,Cell.at 0 rfl rfl,Cell.at 0 rfl rfl,Cell.at 0 rfl rfl,Cell.at 0 rfl rfl,SlS.none⟩⟩
  | 2,r,h=>by cases h; exact ⟨_,fun K=>⟨Cell.at 0 rfl rfl,Cell.at 0 rfl rfl,Cell.at 0 rfl rfl,Cell.at 0 rfl rfl,Cell.at 0 rfl rfl,SlS.own (l := [.a]) Fd.cells_len 29 rfl rfl⟩⟩
  | 3,r,h=>by cases h; exact ⟨_,fun K=>⟨Cell.at 0 rfl rfl,Cell.at 0 rfl rfl,Cell.at 0 rfl rfl,Cell.at 0 rfl rfl,Cell.at 0 rfl rfl,SlS.own (l := [.a]) Fd.cells_len 28 rfl rfl⟩⟩
  | 4,r,h=>by cases h; exact ⟨_,fun K=>⟨Cell.at 0 rfl rfl,Cell.at 0 rfl rfl,Cell.at 0 rfl rfl,Cell.at 0 rfl rfl,Cell.at 0 rfl rfl,SlS.own (l := [.a]) Fd.cells_len 27 rfl rfl⟩⟩
  | 5,r,h=>by cases h; exact ⟨_,fun K=>⟨Cell.at 0 rfl rfl,Cell.at 0 rfl rfl,Cell.at 0 rfl rfl,Cell.at 0 rfl rfl,Cell.at 0 rfl rfl,SlS.own (l := [.x,.b]) Fd.cells_len 26 rfl rfl⟩⟩
  | 6,r,h=>by cases h; exact ⟨_,fun K=>⟨Cell.at 0 rfl rfl,Cell.at 0 rfl rfl,Cell.at 0 rfl rfl,Cell.at 0 rfl rfl,Cell.at 0 rfl rfl,SlS.own (l := [.x,.b]) Fd.cells_len 25 rfl rfl⟩⟩
  | 7,r,h=>by cases h; exact ⟨_,fun K=>⟨Cell.at 0 rfl rfl,Cell.at 0 rfl rfl,Cell.at 0 rfl rfl,Cell.at 0 rfl rfl,Cell.at 0 rfl rfl,SlS.own (l := [.x,.y]) Fd.cells_len 24 rfl rfl⟩⟩
  | 8,r,h=>by cases h; exact ⟨_,fun K=>⟨Cell.at 0 rfl rfl,Cell.at 0 rfl rfl,Cell.at 0 rfl rfl,Cell.at 0 rfl rfl,Cell.at 0 rfl rfl,SlS.own (l := [.x,.b]) Fd.cells_len 23 rfl rfl⟩⟩
  | 9,r,h=>by cases h; exact ⟨_,fun K=>⟨Cell.at 0 rfl rfl,Cell.at 0 rfl rfl,Cell.at 0 rfl rfl,Cell.at 0 rfl rfl,Cell.at 0 rfl rfl,SlS.own (l := [.x,.b]) Fd.cells_len 22 rfl rfl⟩⟩
  | 10,r,h=>by cases h; exact ⟨_,fun K=>⟨Cell.at 0 rfl rfl,Cell.at 0 rfl rfl,Cell.at 0 rfl rfl,Cell.at 0 rfl rfl,Cell.at 0 rfl rfl,SlS.own (l := [.x,.y]) Fd.cells_len 21 rfl rfl⟩⟩
  | 11,r,h=>by cases h; exact ⟨_,fun K=>⟨Cell.at 0 rfl rfl,Cell.at 0 rfl rfl,Cell.at 0 rfl rfl,Cell.at 0 rfl rfl,Cell.at 0 rfl rfl,SlS.own (l := [.x,.y]) Fd.cells_len 20 rfl rfl⟩⟩
  | 12,r,h=>by cases h; exact ⟨_,fun K=>⟨Cell.at 0 rfl rfl,Cell.at 0 rfl rfl,Cell.at 0 rfl rfl,Cell.at 0 rfl rfl,Cell.at 0 rfl rfl,SlS.own (l := [.x,.y]) Fd.cells_len 19 rfl rfl⟩⟩
  | 13,r,h=>by cases h; exact ⟨_,fun K=>⟨Cell.at 0 rfl rfl,Cell.at 0 rfl rfl,Cell.at 0 rfl rfl,Cell.at 0 rfl rfl,Cell.at 0 rfl rfl,SlS.own (l := [.x,.y]) Fd.cells_len 18 rfl rfl⟩⟩
  | 14,r,h=>by cases h; exact ⟨_,fun K=>⟨Cell.at 0 rfl rfl,Cell.at 0 rfl rfl,Cell.at 0 rfl rfl,Cell.at 0 rfl rfl,Cell.at 0 rfl rfl,SlS.own (l := [.x,.y]) Fd.cells_len 17 rfl rfl⟩⟩
  | 15,r,h=>by cases h; exact ⟨_,fun K=>⟨Cell.at 0 rfl rfl,Cell.at 0 rfl rfl,Cell.at 0 rfl rfl,Cell.at 0 rfl rfl,Cell.at 0 rfl rfl,SlS.own (l := [.x,.y]) Fd.cells_len 16 rfl rfl⟩⟩
  | 16,r,h=>by cases h; exact ⟨_,fun K=>⟨Cell.at 0 rfl rfl,Cell.at 0 rfl rfl,Cell.at 0 rfl rfl,Cell.at 0 rfl rfl,Cell.at 0 rfl rfl,SlS.own (l := [.a]) Fd.cells_len 15 rfl rfl⟩⟩
  | 17,r,h=>by cases h; exact ⟨_,fun K=>⟨Cell.at 0 rfl rfl,Cell.at 0 rfl rfl,Cell.at 0 rfl rfl,Cell.at 0 rfl rfl,Cell.at 0 rfl rfl,SlS.own (l := [.a]) Fd.cells_len 14 rfl rfl⟩⟩
  | 18,r,h=>by cases h; exact ⟨_,fun K=>⟨Cell.at 0 rfl rfl,Cell.at 0 rfl rfl,Cell.at 0 rfl rfl,Cell.at 0 rfl rfl,Cell.at 0 rfl rfl,SlS.own (l := [.x,.b]) Fd.cells_len 13 rfl rfl⟩⟩
  | 19,r,h=>by cases h; exact ⟨_,fun K=>⟨Cell.at 0 rfl rfl,Cell.at 0 rfl rfl,Cell.at 0 rfl rfl,Cell.at 0 rfl rfl,Cell.at 0 rfl rfl,SlS.own (l := [.x,.y,.n]) Fd.cells_len 12 rfl rfl⟩⟩
  | 20,r,h=>by cases h; exact ⟨_,fun K=>⟨Cell.at 0 rfl rfl,Cell.at 0 rfl rfl,Cell.at 0 rfl rfl,Cell.at 0 rfl rfl,Cell.at 0 rfl rfl,SlS.own (l := [.x]) Fd.cells_len 11 rfl rfl⟩⟩
  | 21,r,h=>by cases h; exact ⟨_,fun K=>⟨Cell.at 0 rfl rfl,Cell.at 0 rfl rfl,Cell.at 0 rfl rfl,Cell.at 0 rfl rfl,Cell.at 0 rfl rfl,SlS.own (l := [.x]) Fd.cells_len 10 rfl rfl⟩⟩
  | 22,r,h=>by cases h; exact ⟨_,fun K=>⟨Cell.at 0 rfl rfl,Cell.at 0 rfl rfl,Cell.at 0 rfl rfl,Cell.at 0 rfl rfl,Cell.at 0 rfl rfl,SlS.own (l := [.x]) Fd.cells_len 9 rfl rfl⟩⟩
  | 23,r,h=>by cases h; exact ⟨_,fun K=>⟨Cell.at 0 rfl rfl,Cell.at 0 rfl rfl,Cell.at 0 rfl rfl,Cell.at 0 rfl rfl,Cell.at 0 rfl rfl,SlS.own (l := [.x]) Fd.cells_len 8 rfl rfl⟩⟩
  | 24,r,h=>by cases h; exact ⟨_,fun K=>⟨Cell.at 0 rfl rfl,Cell.at 0 rfl rfl,Cell.at 0 rfl rfl,Cell.at 0 rfl rfl,Cell.at 0 rfl rfl,SlS.own (l := [.x]) Fd.cells_len 7 rfl rfl⟩⟩
  | 25,r,h=>by cases h; exact ⟨_,fun K=>⟨Cell.at 0 rfl rfl,Cell.at 0 rfl rfl,Cell.at 0 rfl rfl,Cell.at 0 rfl rfl,Cell.at 0 rfl rfl,SlS.own (l := [.x]) Fd.cells_len 6 rfl rfl⟩⟩
  | 26,r,h=>by cases h; exact ⟨_,fun K=>⟨Cell.at 0 rfl rfl,Cell.at 0 rfl rfl,Cell.at 0 rfl rfl,Cell.at 0 rfl rfl,Cell.at 0 rfl rfl,SlS.own (l := [.x]) Fd.cells_len 5 rfl rfl⟩⟩
  | 27,r,h=>by cases h; exact ⟨_,fun K=>⟨Cell.at 0 rfl rfl,Cell.at 0 rfl rfl,Cell.at 0 rfl rfl,Cell.at 0 rfl rfl,Cell.at 0 rfl rfl,SlS.own (l := [.x]) Fd.cells_len 4 rfl rfl⟩⟩
  | 28,r,h=>by cases h; exact ⟨_,fun K=>⟨Cell.at 0 rfl rfl,Cell.at 0 rfl rfl,Cell.at 0 rfl rfl,Cell.at 0 rfl rfl,Cell.at 0 rfl rfl,SlS.own (l := [.x]) Fd.cells_len 3 rfl rfl⟩⟩
  | 29,r,h=>by cases h; exact ⟨_,fun K=>⟨Cell.at 0 rfl rfl,Cell.at 0 rfl rfl,Cell.at 0 rfl rfl,Cell.at 0 rfl rfl,Cell.at 0 rfl rfl,SlS.own (l := [.x]) Fd.cells_len 2 rfl rfl⟩⟩
  | 30,r,h=>by cases h; exact ⟨_,fun K=>⟨Cell.at 0 rfl rfl,Cell.at 0 rfl rfl,Cell.at 0 rfl rfl,Cell.at 0 rfl rfl,Cell.at 0 rfl rfl,SlS.own (l := [.x]) Fd.cells_len 1 rfl rfl⟩⟩
  | j + 31,r,h=>by simp [table] at h


end Go.Proofs.YtgioegdjeodpiaaGreat
namespace Go.Proofs.YtgioegdjeodpiaaGreat
open Go.RowKit Go.SX
set_option maxHeartbeats 1000000
set_option maxRecDepth 100000

structure Ord where
 op : Nat
 x : Nat
 y : Nat
 n : Nat
 b : Nat
 a : Nat
deriving DecidableEq
def Ord.cells (o : Ord) : List Value := [.int .u8 (o.op : Int),.int .u8 (o.x : Int),.int .u8 (o.y : Int),.int .u8 (o.n : Int),.int .u8 (o.b : Int),.int .u16 (o.a : Int)]
def zeroO : Ord := ⟨0,0,0,0,0,0⟩
def Fd.of (o : Ord) : Fd → Nat
 | .x=>o.x | .y=>o.y | .n=>o.n | .b=>o.b | .a=>o.a
def Fd.into (o : Ord) (k : Nat) : Fd → Ord
 | .x=>{ o with x := k % 256 } | .y=>{ o with y := k % 256 } | .n=>{ o with n := k % 256 } | .b=>{ o with b := k % 256 } | .a=>{ o with a := k % 65536 }
structure OkO (o : Ord) : Prop where
 op : o.op < 256
 x : o.x < 256
 y : o.y < 256
 n : o.n < 256
 b : o.b < 256
 a : o.a < 65536
theorem wn8 (k : Nat) : IntKind.u8.wrap (k : Int) = ((k % 256 : Nat) : Int) := by rw [IntKind.wrap_u8]; omega
theorem wn16 (k : Nat) : IntKind.u16.wrap (k : Int) = ((k % 65536 : Nat) : Int) := by rw [IntKind.wrap_u16]; omega
theorem get_mid (H : Hp) (s : Slot) (L : Hp) : (H ++ s :: L)[H.length]? = some s := by simp
theorem set_mid1 (H : Hp) (s t : Slot) (L : Hp) : (H ++ s :: L).set H.length t = H ++ t :: L := by simp
theorem callable_put (f : Fd) : callable Tryz.prog f.put = true := by cases f <;> kernel_rfl
theorem put_x {Γ : Ctx} (hP : Γ.P = Tryz.prog) {L : Hp} {g i k : Nat} {o : Ord} (hi : L[i]? = some (some (g,.cells o.cells.toArray 60 (0,0)))) :
  SCall Γ 99 #[(.pointer (some ⟨g,0,none⟩)),(.int .i64 (k : Int))] L (fun v L'=>v = .tuple #[] ∧ L' = L.set i (some (g,.cells (Fd.x.into o k).cells.toArray 60 (0,0)))) := by
 refine SCall.enter (n := 9) (res0) (hP ▸ Tryz.func99) rfl rfl (by simp) (res0_ok rfl) ?_
 refine SX.region ?_
 simp only [go_sem,stK_e,add_addS,ia_someH,hP,wn8,wn16]
 refine ⟨i,_,_,_,hi,by simp [Ord.cells],.inr (Nat.zero_le _),?_⟩
 try simp only [go_sem,stK_e,add_addS,ia_someH,hP,wn8,wn16]
 simp only [andThen_normal,andThen_ret,andThen_exit,inBlk_normal,inBlk_ret,inBlk_exit,Nat.reduceEqDiff,if_true,if_false,reduceIte,retQ_normal]
 try simp only [go_sem,stK_e,add_addS,ia_someH,res0,res1,res2,res3,hP]
 exact ⟨_,_,Less.refl _,rfl,rfl,rfl⟩
theorem put_y {Γ : Ctx} (hP : Γ.P = Tryz.prog) {L : Hp} {g i k : Nat} {o : Ord} (hi : L[i]? = some (some (g,.cells o.cells.toArray 60 (0,0)))) :
  SCall Γ 101 #[(.pointer (some ⟨g,0,none⟩)),(.int .i64 (k : Int))] L (fun v L'=>v = .tuple #[] ∧ L' = L.set i (some (g,.cells (Fd.y.into o k).cells.toArray 60 (0,0)))) := by
 refine SCall.enter (n := 9) (res0) (hP ▸ Tryz.func101) rfl rfl (by simp) (res0_ok rfl) ?_
 refine SX.region ?_
 simp only [go_sem,stK_e,add_addS,ia_someH,hP,wn8,wn16]
 refine ⟨i,_,_,_,hi,by simp [Ord.cells],.inr (Nat.zero_le _),?_⟩
 try simp only [go_sem,stK_e,add_addS,ia_someH,hP,wn8,wn16]
 simp only [andThen_normal,andThen_ret,andThen_exit,inBlk_normal,inBlk_ret,inBlk_exit,Nat.reduceEqDiff,if_true,if_false,reduceIte,retQ_normal]
 try simp only [go_sem,stK_e,add_addS,ia_someH,res0,res1,res2,res3,hP]
 exact ⟨_,_,Less.refl _,rfl,rfl,rfl⟩
theorem put_n {Γ : Ctx} (hP : Γ.P = Tryz.prog) {L : Hp} {g i k : Nat} {o : Ord} (hi : L[i]? = some (some (g,.cells o.cells.toArray 60 (0,0)))) :
  SCall Γ 103 #[(.pointer (some ⟨g,0,none⟩)),(.int .i64 (k : Int))] L (fun v L'=>v = .tuple #[] ∧ L' = L.set i (some (g,.cells (Fd.n.into o k).cells.toArray 60 (0,0)))) := by
 refine SCall.enter (n := 9) (res0) (hP ▸ Tryz.func103) rfl rfl (by simp) (res0_ok rfl) ?_
 refine SX.region ?_
 simp only [go_sem,stK_e,add_addS,ia_someH,hP,wn8,wn16]
 refine ⟨i,_,_,_,hi,by simp [Ord.cells],.inr (Nat.zero_le _),?_⟩
 try simp only [go_sem,stK_e,add_addS,ia_someH,hP,wn8,wn16]
 simp only [andThen_normal,andThen_ret,andThen_exit,inBlk_normal,inBlk_ret,inBlk_exit,Nat.reduceEqDiff,if_true,if_false,reduceIte,retQ_normal]
 try simp only [go_sem,stK_e,add_addS,ia_someH,res0,res1,res2,res3,hP]
 exact ⟨_,_,Less.refl _,rfl,rfl,rfl⟩
theorem put_b {Γ : Ctx} (hP : Γ.P = Tryz.prog) {L : Hp} {g i k : Nat} {o : Ord} (hi : L[i]? = some (some (g,.cells o.cells.toArray 60 (0,0)))) :
  SCall Γ 105 #[(.pointer (some ⟨g,0,none⟩)),(.int .i64 (k : Int))] L (fun v L'=>v = .tuple #[] ∧ L' = L.set i (some (g,.cells (Fd.b.into o k).cells.toArray 60 (0,0)))) := by
 refine SCall.enter (n := 9) (res0) (hP ▸ Tryz.func105) rfl rfl (by simp) (res0_ok rfl) ?_
 refine SX.region ?_
 simp only [go_sem,stK_e,add_addS,ia_someH,hP,wn8,wn16]
 refine ⟨i,_,_,_,hi,by simp [Ord.cells],.inr (Nat.zero_le _),?_⟩
 try simp only [go_sem,stK_e,add_addS,ia_someH,hP,wn8,wn16]
 simp only [andThen_normal,andThen_ret,andThen_exit,inBlk_normal,inBlk_ret,inBlk_exit,Nat.reduceEqDiff,if_true,if_false,reduceIte,retQ_normal]
 try simp only [go_sem,stK_e,add_addS,ia_someH,res0,res1,res2,res3,hP]
 exact ⟨_,_,Less.refl _,rfl,rfl,rfl⟩
theorem put_a {Γ : Ctx} (hP : Γ.P = Tryz.prog) {L : Hp} {g i k : Nat} {o : Ord} (hi : L[i]? = some (some (g,.cells o.cells.toArray 60 (0,0)))) :
  SCall Γ 107 #[(.pointer (some ⟨g,0,none⟩)),(.int .i64 (k : Int))] L (fun v L'=>v = .tuple #[] ∧ L' = L.set i (some (g,.cells (Fd.a.into o k).cells.toArray 60 (0,0)))) := by
 refine SCall.enter (n := 9) (res0) (hP ▸ Tryz.func107) rfl rfl (by simp) (res0_ok rfl) ?_
 refine SX.region ?_
 simp only [go_sem,stK_e,add_addS,ia_someH,hP,wn8,wn16]
 refine ⟨i,_,_,_,hi,by simp [Ord.cells],.inr (Nat.zero_le _),?_⟩
 try simp only [go_sem,stK_e,add_addS,ia_someH,hP,wn8,wn16]
 simp only [andThen_normal,andThen_ret,andThen_exit,inBlk_normal,inBlk_ret,inBlk_exit,Nat.reduceEqDiff,if_true,if_false,reduceIte,retQ_normal]
 try simp only [go_sem,stK_e,add_addS,ia_someH,res0,res1,res2,res3,hP]
 exact ⟨_,_,Less.refl _,rfl,rfl,rfl⟩

theorem put_spec {Γ : Ctx} (hP : Γ.P = Tryz.prog) {L : Hp} {g i k : Nat} {o : Ord} (f : Fd) (hi : L[i]? = some (some (g,.cells o.cells.toArray 60 (0,0)))) : SCall Γ f.put #[.pointer (some ⟨g,0,none⟩),.int .i64 (k : Int)] L (fun v L'=>v = .tuple #[] ∧ L' = L.set i (some (g,.cells (f.into o k).cells.toArray 60 (0,0)))) := by
 cases f
 ·exact put_x hP hi
 ·exact put_y hP hi
 ·exact put_n hP hi
 ·exact put_b hP hi
 exact put_a hP hi
def rowOf (w : Nat) : Option RowT := table.find? fun r=>decide (w &&& r.mask = r.word)
def RowT.cells (r : RowT) (fv : Value) : List Value := [.int .u8 (r.op : Int),.int .u16 (r.mask : Int),.int .u16 (r.word : Int),.string r.name,fv]
def zeroR : List Value := [.int .u8 0,.int .u16 0,.int .u16 0,.string ⟨#[]⟩,.slice none 0 0]
theorem find_at {p : RowT → Bool} {k : Nat} {r : RowT} (hk : table[k]? = some r) (hp : p r = true) (hl : ∀ j,j < k → ∀ r',table[j]? = some r' → p r' = false) : table.find? p = some r := by
 rw [List.find?_eq_some_iff_getElem]
 obtain ⟨h1,h2⟩ := List.getElem?_eq_some_iff.1 hk
 exact ⟨hp,k,h1,h2,fun j hj=>by rw [hl j hj _ (List.getElem?_eq_getElem (by omega))]; rfl⟩
theorem find_no {p : RowT → Bool} (hl : ∀ j,j < 31 → ∀ r',table[j]? = some r' → p r' = false) : table.find? p = none := by
 rw [List.find?_eq_none]
 intro r hr
 obtain ⟨j,hj⟩ := List.mem_iff_getElem?.1 hr
 rw [hl j (by have := (List.getElem?_eq_some_iff.1 hj).1; exact this) r hj]
 decide
theorem table_ok : (table.all fun r=>decide (r.op < 256) && decide (r.mask < 65536) && decide (r.word < 65536) && decide (r.fs.length ≤ 3)) = true := by kernel_rfl
theorem table_in {j : Nat} {r : RowT} (h : table[j]? = some r) : r.op < 256 ∧ r.mask < 65536 ∧ r.word < 65536 ∧ r.fs.length ≤ 3 := by
 have := List.all_eq_true.1 table_ok r (List.mem_iff_getElem?.2 ⟨j,h⟩)
 simp only [Bool.and_eq_true,decide_eq_true_eq] at this
 omega
def rowOfR (Γ : Ctx) (w : Nat) (L : Hp) (v : Value) (L' : Hp) : Prop :=
 match rowOf w with
 | some r=>∃ H fv,v = .tuple #[.agg (r.cells fv).toArray,.bool true] ∧ L' = H ++ L ∧ ∀ K : Hp,SlS 5 Fd.cells (Cell Γ (H ++ K)) fv r.fs
 | none=>v = .tuple #[.agg zeroR.toArray,.bool false] ∧ L' = L
theorem rowOf_spec {Γ : Ctx} (hP : Γ.P = Tryz.prog) {L : Hp} {w : Nat} (hw : w < 65536) :
  SCall Γ 71 #[(.int .u16 (w : Int))] L (rowOfR Γ w L) := by
 refine SCall.enter (n := 22) (resX Γ [.cell 2 82,.tmp 3]) (hP ▸ Tryz.func71) rfl rfl (by simp) (resX_ok rfl) ?_
 refine SX.seq_k fun K1 hK1=>?_
 refine SX.region ?_
 simp only [go_sem,stK_e,add_addS,ia_someH,hP]
 intro g2
 refine hK1 _ _ ?_
 try clear hK1 K1
 refine SX.seq_k fun K2 hK2=>?_
 refine SX.seq_k fun K3 hK3=>?_
 refine SX.region ?_
 simp only [go_sem,stK_e,add_addS,ia_someH,hP]
 refine SCall.mono (rows_spec hP) ?_
 rintro v_ L_ ⟨H,a,rfl,rfl,hrow⟩
 try simp only [go_sem,stK_e,add_addS,ia_someH,hP]
 refine hK3 _ _ ?_
 try clear hK3 K3
 refine SX.block ?_
 refine SX.live [0,2,6,7,8] (fun T1 hT1=>?_)
 simp only [go_sem,stK_e,add_addS,ia_someH,forall_mem_cons',forall_mem_nil',hP] at hT1
 obtain ⟨h1_0,h1_2,h1_6,h1_7,h1_8⟩ := hT1
 refine SX.loop_k (fun (ss : (Nat)) T L'=>(fun (k : Nat)=>T 8 = .int .i64 (k : Int) ∧ T 0 = T1 0 ∧ T 2 = T1 2 ∧ T 6 = T1 6 ∧ T 7 = T1 7 ∧ L' = H ++ some (g2,.cells ([.int .u8 0,.int .u16 0,.int .u16 0,.string ⟨#[]⟩,.slice none 0 0]).toArray 82 (0,0)) :: L ∧ (k ≤ 31 ∧ ∀ j,j < k → ∀ r',table[j]? = some r' → (decide (w &&& r'.mask = r'.word)) = false)) (ss)) (fun (ss : (Nat))=>(fun (k : Nat)=>31 - k) (ss)) 0 ?_ ?_
 ·try dsimp only
  refine ⟨?_,?_,?_,?_,?_,?_,?_⟩
  ·first | exact h1_8 | (rw [h1_8]; rfl) | (rw [h1_8]; simp; done)
  ·rfl
  ·rfl
  ·rfl
  ·rfl
  ·rfl
  exact ⟨Nat.zero_le _,fun j hj=>absurd hj (Nat.not_lt_zero _)⟩
 intro k T2 L2 hI K4 hK4
 try dsimp only at hI hK4
 simp only [h1_0,h1_2,h1_6,h1_7] at hI hK4
 obtain ⟨h2_8,h2_0,h2_2,h2_6,h2_7,hL2,⟨hk,hno⟩⟩ := hI
 replace hL2 := hL2.symm
 subst hL2
 clear h1_0 h1_2 h1_6 h1_7 h1_8 T1
 refine SX.seq_k fun K5 hK5=>?_
 refine SX.region ?_
 simp only [go_sem,stK_e,add_addS,ia_someH,hP,h2_8,h2_0,h2_2,h2_6,h2_7]
 refine hK5 _ _ ?_
 try clear hK5 K5
 refine SX.seq_k fun K6 hK6=>?_
 refine SX.cond_k fun X7 Y7 hX7 hY7=>?_
 simp only [go_sem,stK_e,add_addS,ia_someH,hP,h2_8,h2_0,h2_2,h2_6,h2_7,condVC]
 refine ⟨fun hc9=>hX7 ?_,fun hc9=>hY7 ?_⟩
 ·clear hX7 hY7 X7 Y7
  refine SX.skip ?_
  try simp only [andThen_normal,andThen_ret,andThen_exit,inBlk_normal,inBlk_ret,inBlk_exit,Nat.reduceEqDiff,if_true,if_false,reduceIte]
  refine hK6 _ _ ?_
  try clear hK6 K6
  refine SX.seq_k fun K8 hK8=>?_
  refine SX.block ?_
  refine SX.seq_k fun K9 hK9=>?_
  have hkl : k < 31 := by omega
  have hk0 : table[k]? = some table[k] := List.getElem?_eq_getElem hkl
  obtain ⟨fv,hfv⟩ := hrow k _ hk0
  have hti := table_in hk0
  generalize table[k] = r at hk0 hfv hti
  obtain ⟨c0,c1,c2,c3,c4,hfs⟩ := hfv (some (g2,.cells zeroR.toArray 82 (0,0)) :: L)
  simp only [add_addS] at c1 c2 c3 c4
  obtain ⟨FA,fc,hfe,hfc,hfA⟩ := id hfs
  subst hfe
  refine SX.region ?_
  simp only [go_sem,stK_e,add_addS,ia_someH,hP,h2_8,h2_0,h2_2,h2_6,h2_7]
  refine ⟨⟨by omega,by omega⟩,_,c0,_,c1,_,c2,_,c3,_,c4,?_⟩
  try simp only [go_sem,stK_e,add_addS,ia_someH,hP,h2_8,h2_0,h2_2,h2_6,h2_7]
  intro g5
  refine ⟨0,_,_,_,rfl,by decide,.inr (by decide),?_⟩
  try simp only [go_sem,stK_e,add_addS,ia_someH,hP,h2_8,h2_0,h2_2,h2_6,h2_7]
  refine hK9 _ _ ?_
  try clear hK9 K9
  refine SX.seq_k fun K10 hK10=>?_
  have hand := u16_and_nat w r.mask hw hti.2.1
  refine SX.region ?_
  simp only [go_sem,stK_e,add_addS,ia_someH,hP,h2_8,h2_0,h2_2,h2_6,h2_7,hand]
  refine ⟨_,Cell.at 0 rfl rfl,?_⟩
  try simp only [go_sem,stK_e,add_addS,ia_someH,hP,h2_8,h2_0,h2_2,h2_6,h2_7,hand]
  refine ⟨_,Cell.at 0 rfl rfl,?_⟩
  try simp only [go_sem,stK_e,add_addS,ia_someH,hP,h2_8,h2_0,h2_2,h2_6,h2_7,hand]
  refine hK10 _ _ ?_
  try clear hK10 K10
  refine SX.live [0,2,5,6,7,8,18] (fun T3 hT3=>?_)
  simp only [go_sem,stK_e,add_addS,ia_someH,forall_mem_cons',forall_mem_nil',hP,h2_8,h2_0,h2_2,h2_6,h2_7] at hT3
  obtain ⟨h3_0,h3_2,h3_5,h3_6,h3_7,h3_8,h3_18⟩ := hT3
  clear h2_8 h2_0 h2_2 h2_6 h2_7 T2
  refine SX.cond_k fun X11 Y11 hX11 hY11=>?_
  simp only [go_sem,stK_e,add_addS,ia_someH,hP,h3_0,h3_2,h3_5,h3_6,h3_7,h3_8,h3_18,condVC]
  refine ⟨fun hc18=>hX11 ?_,fun hc18=>hY11 ?_⟩
  ·clear hX11 hY11 X11 Y11
   refine SX.seq_k fun K12 hK12=>?_
   refine SX.region ?_
   simp only [go_sem,stK_e,add_addS,ia_someH,hP,h3_0,h3_2,h3_5,h3_6,h3_7,h3_8,h3_18]
   (iterate 5 refine ⟨_,Cell.at 0 rfl rfl,?_⟩)
   try simp only [go_sem,stK_e,add_addS,ia_someH,hP,h3_0,h3_2,h3_5,h3_6,h3_7,h3_8,h3_18]
   refine ⟨H.length + 1,_,_,_,by rw [List.getElem?_cons_succ]; exact get_mid _ _ _,by decide,.inr (Nat.zero_le _),?_⟩
   try simp only [go_sem,stK_e,add_addS,ia_someH,hP,h3_0,h3_2,h3_5,h3_6,h3_7,h3_8,h3_18]
   rw [set_mid1]
   refine hK12 _ _ ?_
   try clear hK12 K12
   refine SX.ret ?_
   simp only [andThen_normal,andThen_ret,andThen_exit,inBlk_normal,inBlk_ret,inBlk_exit,Nat.reduceEqDiff,if_true,if_false,reduceIte,retQ_ret]
   try simp only [go_sem,stK_e,add_addS,ia_someH,res0,res1,res2,res3,resX,resK,oneOr,hP,h3_0,h3_2,h3_5,h3_6,h3_7,h3_8,h3_18]
   refine ⟨_,H ++ L,Less.sublist (List.Sublist.cons _ ((List.sublist_cons_self _ _).append_left H)),⟨_,Cell.at (H.length + 1) (by first | exact get_mid _ _ _ | (rw [List.getElem?_cons_succ]; exact get_mid _ _ _)) rfl,_,Cell.at (H.length + 1) (by first | exact get_mid _ _ _ | (rw [List.getElem?_cons_succ]; exact get_mid _ _ _)) rfl,_,Cell.at (H.length + 1) (by first | exact get_mid _ _ _ | (rw [List.getElem?_cons_succ]; exact get_mid _ _ _)) rfl,_,Cell.at (H.length + 1) (by first | exact get_mid _ _ _ | (rw [List.getElem?_cons_succ]; exact get_mid _ _ _)) rfl,_,Cell.at (H.length + 1) (by first | exact get_mid _ _ _ | (rw [List.getElem?_cons_succ]; exact get_mid _ _ _)) rfl,rfl⟩,?_⟩
   unfold rowOfR
   rw [show rowOf w = some r from find_at hk0 (decide_eq_true (by omega)) hno]
   exact ⟨H,_,rfl,rfl,fun K=>(hfv K).2.2.2.2.2⟩
  clear hX11 hY11 X11 Y11
  refine SX.skip ?_
  try simp only [andThen_normal,andThen_ret,andThen_exit,inBlk_normal,inBlk_ret,inBlk_exit,Nat.reduceEqDiff,if_true,if_false,reduceIte]
  refine hK8 _ _ ?_
  try clear hK8 K8
  refine SX.region ?_
  simp only [go_sem,stK_e,add_addS,ia_someH,hP,h3_0,h3_2,h3_5,h3_6,h3_7,h3_8,h3_18]
  refine hK4 (k + 1) _ (H ++ some (g2,.cells ([.int .u8 0,.int .u16 0,.int .u16 0,.string ⟨#[]⟩,.slice none 0 0]).toArray 82 (0,0)) :: L) _ (by first | exact Less.refl _ | exact Less.drop _ _ | exact Less.drops (Less.drop _ _) | exact Less.drops (Less.drops (Less.drop _ _)) | exact Less.drops (Less.drops (Less.drops (Less.drop _ _))) | exact Less.drops (Less.drops (Less.drops (Less.drops (Less.drop _ _))))) ?_ ?_
  ·try dsimp only
   refine ⟨?_,?_,?_,?_,?_,?_,?_⟩
   ·simp only [go_sem,stK_e,add_addS,ia_someH,hP,h3_0,h3_2,h3_5,h3_6,h3_7,h3_8,h3_18]
    rw [inc64 (by omega)]
   ·simp only [go_sem,stK_e,add_addS,ia_someH,hP,h3_0,h3_2,h3_5,h3_6,h3_7,h3_8,h3_18]
   ·simp only [go_sem,stK_e,add_addS,ia_someH,hP,h3_0,h3_2,h3_5,h3_6,h3_7,h3_8,h3_18]
   ·simp only [go_sem,stK_e,add_addS,ia_someH,hP,h3_0,h3_2,h3_5,h3_6,h3_7,h3_8,h3_18]
   ·simp only [go_sem,stK_e,add_addS,ia_someH,hP,h3_0,h3_2,h3_5,h3_6,h3_7,h3_8,h3_18]
   ·rfl
   refine ⟨by omega,fun j hj r' hr'=>?_⟩
   rcases Nat.lt_succ_iff_lt_or_eq.1 hj with h | rfl
   ·exact hno j h r' hr'
   rw [hk0] at hr'; cases hr'; exact decide_eq_false (by omega)
  (try dsimp only); omega
 clear hX7 hY7 X7 Y7
 refine SX.exit ?_
 try simp only [andThen_normal,andThen_ret,andThen_exit,inBlk_normal,inBlk_ret,inBlk_exit,Nat.reduceEqDiff,if_true,if_false,reduceIte]
 refine hK2 _ _ ?_
 try clear hK2 K2
 refine SX.seq_k fun K13 hK13=>?_
 obtain rfl : k = 31 := by omega
 refine SX.region ?_
 simp only [go_sem,stK_e,add_addS,ia_someH,hP,h2_8,h2_0,h2_2,h2_6,h2_7]
 refine ⟨H.length,_,_,_,get_mid _ _ _,by decide,.inr (Nat.zero_le _),?_⟩
 try simp only [go_sem,stK_e,add_addS,ia_someH,hP,h2_8,h2_0,h2_2,h2_6,h2_7]
 rw [set_mid1]
 refine hK13 _ _ ?_
 try clear hK13 K13
 refine SX.ret ?_
 simp only [andThen_normal,andThen_ret,andThen_exit,inBlk_normal,inBlk_ret,inBlk_exit,Nat.reduceEqDiff,if_true,if_false,reduceIte,retQ_ret]
 try simp only [go_sem,stK_e,add_addS,ia_someH,res0,res1,res2,res3,resX,resK,oneOr,hP,h2_8,h2_0,h2_2,h2_6,h2_7]
 refine ⟨_,L,(Less.sublist (List.sublist_append_right H _)).trans (Less.drop _ _),⟨_,Cell.at (H.length) (by first | exact get_mid _ _ _ | (rw [List.getElem?_cons_succ]; exact get_mid _ _ _)) rfl,_,Cell.at (H.length) (by first | exact get_mid _ _ _ | (rw [List.getElem?_cons_succ]; exact get_mid _ _ _)) rfl,_,Cell.at (H.length) (by first | exact get_mid _ _ _ | (rw [List.getElem?_cons_succ]; exact get_mid _ _ _)) rfl,_,Cell.at (H.length) (by first | exact get_mid _ _ _ | (rw [List.getElem?_cons_succ]; exact get_mid _ _ _)) rfl,_,Cell.at (H.length) (by first | exact get_mid _ _ _ | (rw [List.getElem?_cons_succ]; exact get_mid _ _ _)) rfl,rfl⟩,?_⟩
 unfold rowOfR
 rw [show rowOf w = none from find_no hno]
 exact ⟨rfl,rfl⟩


end Go.Proofs.YtgioegdjeodpiaaGreat
namespace Go.Proofs.YtgioegdjeodpiaaGreat
open Go.RowKit Go.SX

def fieldIn (w : Nat) (f : Fd) : Nat := w / 2 ^ f.shift % 2 ^ (4 * f.dig)
def decT (w : Nat) (r : RowT) (j : Nat) : Ord := (r.fs.take j).foldl (fun o f=>f.into o (fieldIn w f)) ⟨r.op,0,0,0,0,0⟩
def decO (w : Nat) (r : RowT) : Ord := decT w r r.fs.length
def decode (w : Nat) : Option Ord := (rowOf w).map (decO w)
theorem decT_succ {w : Nat} {r : RowT} {j : Nat} {f : Fd} (h : r.fs[j]? = some f) : decT w r (j + 1) = f.into (decT w r j) (fieldIn w f) := by
 have hj := (List.getElem?_eq_some_iff.1 h).1
 unfold decT
 rw [List.take_add_one,h,List.foldl_append]
 rfl
theorem fieldIn_val (f : Fd) {w : Nat} (hw : w < 65536) : bits .and .i64 ((w : Int).fdiv (2 ^ min f.shift 64)) (IntKind.i64.wrap (IntKind.i64.wrap (1 * 2 ^ min (4 * f.dig) 64) - 1)) = ((fieldIn w f : Nat) : Int) := by
 have key : ∀ (x : Int) (i : Nat),0 ≤ x → x < 65536 → i ≤ 16 → bits .and .i64 x (2 ^ i - 1) = x % 2 ^ i := fun x i h0 h1 hi=>bits_mask .i64 62 (by decide) (fun n hn1 hn2=>w64 (by omega)) i (by omega) x h0 (by omega)
 have hd : (w : Int).fdiv (2 ^ min f.shift 64) = ((w / 2 ^ f.shift : Nat) : Int) := by
  rw [Nat.min_eq_left (by cases f <;> decide),show (2 : Int) ^ f.shift = ((2 ^ f.shift : Nat) : Int) by rw [Int.natCast_pow]; rfl,Int.fdiv_eq_ediv_of_nonneg _ (Int.natCast_nonneg _)]
  rfl
 have hm : (IntKind.i64.wrap (IntKind.i64.wrap (1 * 2 ^ min (4 * f.dig) 64) - 1)) = 2 ^ (4 * f.dig) - 1 := by cases f <;> rfl
 have hl : w / 2 ^ f.shift < 65536 := Nat.lt_of_le_of_lt (Nat.div_le_self _ _) hw
 rw [hd,hm,key _ _ (Int.natCast_nonneg _) (Int.ofNat_lt.2 hl) (by cases f <;> decide),fieldIn,show (2 : Int) ^ (4 * f.dig) = ((2 ^ (4 * f.dig) : Nat) : Int) by rw [Int.natCast_pow]; rfl]
 rfl
def decodeR (w : Nat) (L : Hp) (v : Value) (L' : Hp) : Prop :=
 match decode w with
 | some o=>v = .tuple #[.agg o.cells.toArray,.bool true] ∧ L' = L
 | none=>v = .tuple #[.agg zeroO.cells.toArray,.bool false] ∧ L' = L
theorem row_fs {w : Nat} {r : RowT} (h : rowOf w = some r) : r.op < 256 ∧ r.fs.length ≤ 3 := by
 have hm := List.mem_of_find?_eq_some h
 obtain ⟨j,hj⟩ := List.mem_iff_getElem?.1 hm
 have := table_in hj
 omega
set_option maxHeartbeats 1000000 in
set_option maxRecDepth 100000 in
theorem Decode_spec {Γ : Ctx} (hP : Γ.P = Tryz.prog) {L : Hp} {w : Nat} (hw : w < 65536) :
  SCall Γ 34 #[(.int .u16 (w : Int))] L (decodeR w L) := by
 refine SCall.enter (n := 43) (resX Γ [.cell 2 60,.tmp 3]) (hP ▸ Tryz.func34) rfl rfl (by simp) (resX_ok rfl) ?_
 refine SX.seq_k fun K1 hK1=>?_
 refine SX.region ?_
 simp only [go_sem,stK_e,add_addS,ia_someH,hP]
 intro g2
 refine hK1 _ _ ?_
 try clear hK1 K1
 refine SX.seq_k fun K2 hK2=>?_
 refine SX.region ?_
 simp only [go_sem,stK_e,add_addS,ia_someH,hP,zeroR,RowT.cells]
 rcases hr : rowOf w with _ | r
 ·refine SCall.mono (rowOf_spec hP hw) ?_
  rintro v_ L_ h_
  rw [rowOfR,hr] at h_
  obtain ⟨rfl,rfl⟩ := h_
  try simp only [go_sem,stK_e,add_addS,ia_someH,hP,zeroR,RowT.cells]
  intro g4
  refine ⟨0,_,_,_,rfl,by simp [zeroR,RowT.cells,Ord.cells,zeroO],.inr (by decide),?_⟩
  try simp only [go_sem,stK_e,add_addS,ia_someH,hP,zeroR,RowT.cells]
  refine hK2 _ _ ?_
  try clear hK2 K2
  refine SX.live [0,2,4,5] (fun T1 hT1=>?_)
  simp only [go_sem,stK_e,add_addS,ia_someH,forall_mem_cons',forall_mem_nil',hP] at hT1
  obtain ⟨h1_0,h1_2,h1_4,h1_5⟩ := hT1
  refine SX.seq_k fun K3 hK3=>?_
  refine SX.seq_k fun K4 hK4=>?_
  refine SX.region ?_
  simp only [go_sem,stK_e,add_addS,ia_someH,hP,h1_0,h1_2,h1_4,h1_5]
  refine hK4 _ _ ?_
  try clear hK4 K4
  refine SX.cond_k fun X5 Y5 hX5 hY5=>?_
  simp only [go_sem,stK_e,add_addS,ia_someH,hP,h1_0,h1_2,h1_4,h1_5,condVC]
  refine hX5 ?_
  clear hX5 hY5 X5 Y5
  refine SX.seq_k fun K6 hK6=>?_
  refine SX.region ?_
  simp only [go_sem,stK_e,add_addS,ia_someH,hP,h1_0,h1_2,h1_4,h1_5]
  refine ⟨1,_,_,_,rfl,by simp,.inr (by decide),?_⟩
  try simp only [go_sem,stK_e,add_addS,ia_someH,hP,h1_0,h1_2,h1_4,h1_5]
  refine hK6 _ _ ?_
  try clear hK6 K6
  refine SX.ret ?_
  simp only [andThen_normal,andThen_ret,andThen_exit,inBlk_normal,inBlk_ret,inBlk_exit,Nat.reduceEqDiff,if_true,if_false,reduceIte,retQ_ret]
  try simp only [go_sem,stK_e,add_addS,ia_someH,res0,res1,res2,res3,resX,resK,oneOr,hP,h1_0,h1_2,h1_4,h1_5]
  refine ⟨_,L,Less.drops (Less.drop _ _),⟨_,Cell.at 1 rfl rfl,_,Cell.at 1 rfl rfl,_,Cell.at 1 rfl rfl,_,Cell.at 1 rfl rfl,_,Cell.at 1 rfl rfl,_,Cell.at 1 rfl rfl,rfl⟩,?_⟩
  unfold decodeR decode
  rw [hr]
  exact ⟨rfl,rfl⟩
 refine SCall.mono (rowOf_spec hP hw) ?_
 rintro v_ L_ h_
 rw [rowOfR,hr] at h_
 obtain ⟨H,fv,rfl,rfl,hfv⟩ := h_
 have hrf := row_fs hr
 obtain ⟨FA,fc,hfe,hfc,hfA⟩ := hfv (some (g2,.cells [.int .u8 0,.int .u8 0,.int .u8 0,.int .u8 0,.int .u8 0,.int .u16 0].toArray 60 (0,0)) :: L)
 subst hfe
 try simp only [go_sem,stK_e,add_addS,ia_someH,hP,zeroR,RowT.cells]
 intro g4
 refine ⟨0,_,_,_,rfl,by simp [zeroR,RowT.cells,Ord.cells,zeroO],.inr (by decide),?_⟩
 try simp only [go_sem,stK_e,add_addS,ia_someH,hP,zeroR,RowT.cells]
 refine hK2 _ _ ?_
 try clear hK2 K2
 refine SX.live [0,2,4,5] (fun T2 hT2=>?_)
 simp only [go_sem,stK_e,add_addS,ia_someH,forall_mem_cons',forall_mem_nil',hP] at hT2
 obtain ⟨h2_0,h2_2,h2_4,h2_5⟩ := hT2
 refine SX.seq_k fun K7 hK7=>?_
 refine SX.seq_k fun K8 hK8=>?_
 refine SX.region ?_
 simp only [go_sem,stK_e,add_addS,ia_someH,hP,h2_0,h2_2,h2_4,h2_5]
 refine hK8 _ _ ?_
 try clear hK8 K8
 refine SX.cond_k fun X9 Y9 hX9 hY9=>?_
 simp only [go_sem,stK_e,add_addS,ia_someH,hP,h2_0,h2_2,h2_4,h2_5,condVC]
 refine hY9 ?_
 clear hX9 hY9 X9 Y9
 refine SX.skip ?_
 try simp only [andThen_normal,andThen_ret,andThen_exit,inBlk_normal,inBlk_ret,inBlk_exit,Nat.reduceEqDiff,if_true,if_false,reduceIte]
 refine hK7 _ _ ?_
 try clear hK7 K7
 refine SX.seq_k fun K10 hK10=>?_
 refine SX.region ?_
 simp only [go_sem,stK_e,add_addS,ia_someH,hP,h2_0,h2_2,h2_4,h2_5]
 refine ⟨_,Cell.at 0 rfl rfl,?_⟩
 try simp only [go_sem,stK_e,add_addS,ia_someH,hP,h2_0,h2_2,h2_4,h2_5]
 intro g6
 refine ⟨0,_,_,_,rfl,by simp [zeroR,RowT.cells,Ord.cells,zeroO],.inr (by decide),?_⟩
 try simp only [go_sem,stK_e,add_addS,ia_someH,hP,h2_0,h2_2,h2_4,h2_5]
 refine hK10 _ _ ?_
 try clear hK10 K10
 refine SX.seq_k fun K11 hK11=>?_
 refine SX.seq_k fun K12 hK12=>?_
 refine SX.region ?_
 simp only [go_sem,stK_e,add_addS,ia_someH,hP,h2_0,h2_2,h2_4,h2_5]
 refine ⟨_,Cell.at 1 rfl rfl,?_⟩
 try simp only [go_sem,stK_e,add_addS,ia_someH,hP,h2_0,h2_2,h2_4,h2_5]
 refine hK12 _ _ ?_
 try clear hK12 K12
 refine SX.live [0,2,6,21,22,23] (fun T3 hT3=>?_)
 simp only [go_sem,stK_e,add_addS,ia_someH,forall_mem_cons',forall_mem_nil',hP,h2_0,h2_2,h2_4,h2_5] at hT3
 obtain ⟨h3_0,h3_2,h3_6,h3_21,h3_22,h3_23⟩ := hT3
 clear h2_0 h2_2 h2_4 h2_5 T2
 refine SX.block ?_
 refine SX.live [0,2,6,21,22,23] (fun T4 hT4=>?_)
 simp only [go_sem,stK_e,add_addS,ia_someH,forall_mem_cons',forall_mem_nil',hP,h3_0,h3_2,h3_6,h3_21,h3_22,h3_23] at hT4
 obtain ⟨h4_0,h4_2,h4_6,h4_21,h4_22,h4_23⟩ := hT4
 clear h3_0 h3_2 h3_6 h3_21 h3_22 h3_23 T3
 refine SX.loop_k (fun (ss : (Nat)) T L'=>(fun (j : Nat)=>T 23 = .int .i64 (j : Int) ∧ T 0 = T4 0 ∧ T 2 = T4 2 ∧ T 6 = T4 6 ∧ T 21 = T4 21 ∧ T 22 = T4 22 ∧ L' = some (g6,.cells (decT w r j).cells.toArray 60 (0,0)) :: some (g4,.cells [.int .u8 (r.op : Int),.int .u16 (r.mask : Int),.int .u16 (r.word : Int),.string r.name,.slice FA r.fs.length fc].toArray 82 (0,0)) :: (H ++ some (g2,.cells [.int .u8 0,.int .u8 0,.int .u8 0,.int .u8 0,.int .u8 0,.int .u16 0].toArray 60 (0,0)) :: L) ∧ (j ≤ r.fs.length)) (ss)) (fun (ss : (Nat))=>(fun (j : Nat)=>r.fs.length - j) (ss)) 0 ?_ ?_
 ·try dsimp only
  refine ⟨?_,?_,?_,?_,?_,?_,?_,?_⟩
  ·first | exact h4_23 | (rw [h4_23]; rfl) | (rw [h4_23]; simp; done)
  ·rfl
  ·rfl
  ·rfl
  ·rfl
  ·rfl
  ·rfl
  exact Nat.zero_le _
 intro j T5 L5 hI K13 hK13
 try dsimp only at hI hK13
 simp only [h4_0,h4_2,h4_6,h4_21,h4_22] at hI hK13
 obtain ⟨h5_23,h5_0,h5_2,h5_6,h5_21,h5_22,hL5,hj⟩ := hI
 replace hL5 := hL5.symm
 subst hL5
 clear h4_0 h4_2 h4_6 h4_21 h4_22 h4_23 T4
 refine SX.seq_k fun K14 hK14=>?_
 refine SX.region ?_
 simp only [go_sem,stK_e,add_addS,ia_someH,hP,h5_23,h5_0,h5_2,h5_6,h5_21,h5_22]
 refine hK14 _ _ ?_
 try clear hK14 K14
 refine SX.seq_k fun K15 hK15=>?_
 refine SX.cond_k fun X16 Y16 hX16 hY16=>?_
 simp only [go_sem,stK_e,add_addS,ia_someH,hP,h5_23,h5_0,h5_2,h5_6,h5_21,h5_22,condVC]
 refine ⟨fun hc24=>hX16 ?_,fun hc24=>hY16 ?_⟩
 ·clear hX16 hY16 X16 Y16
  refine SX.skip ?_
  try simp only [andThen_normal,andThen_ret,andThen_exit,inBlk_normal,inBlk_ret,inBlk_exit,Nat.reduceEqDiff,if_true,if_false,reduceIte]
  refine hK15 _ _ ?_
  try clear hK15 K15
  refine SX.seq_k fun K17 hK17=>?_
  refine SX.block ?_
  refine SX.seq_k fun K18 hK18=>?_
  have hjl : j < r.fs.length := by omega
  have hf0 : r.fs[j]? = some r.fs[j] := List.getElem?_eq_getElem hjl
  obtain ⟨fa,hfa,hcl0⟩ := hfA j _ hf0
  generalize r.fs[j] = f at hf0 hcl0
  have hcl : ∀ i u,f.cells[i]? = some u → Cell Γ (some (g6,.cells (decT w r j).cells.toArray 60 (0,0)) :: some (g4,.cells [.int .u8 (r.op : Int),.int .u16 (r.mask : Int),.int .u16 (r.word : Int),.string r.name,.slice FA r.fs.length fc].toArray 82 (0,0)) :: (H ++ some (g2,.cells [.int .u8 0,.int .u8 0,.int .u8 0,.int .u8 0,.int .u8 0,.int .u16 0].toArray 60 (0,0)) :: L)) (fa.add (j * 5 + i)) u := fun i u h=>by rw [← add_addS]; exact Cell.cons _ (Cell.cons _ (hcl0 i u h))
  refine SX.region ?_
  simp only [go_sem,stK_e,add_addS,ia_someH,hP,h5_23,h5_0,h5_2,h5_6,h5_21,h5_22]
  refine ⟨⟨by omega,by omega⟩,fa,hfa,_,hcl 0 _ rfl,_,hcl 1 _ rfl,_,hcl 2 _ rfl,_,hcl 3 _ rfl,_,hcl 4 _ rfl,?_⟩
  try simp only [go_sem,stK_e,add_addS,ia_someH,hP,h5_23,h5_0,h5_2,h5_6,h5_21,h5_22]
  intro g8
  refine ⟨0,_,_,_,rfl,by simp,.inr (by decide),?_⟩
  try simp only [go_sem,stK_e,add_addS,ia_someH,hP,h5_23,h5_0,h5_2,h5_6,h5_21,h5_22]
  refine hK18 _ _ ?_
  try clear hK18 K18
  have q1 : IntKind.i64.wrap (w : Int) = (w : Int) := w64 (by omega)
  have q2 : IntKind.i64.wrap (4 * (f.dig : Int)) = ((4 * f.dig : Nat) : Int) := by cases f <;> rfl
  refine SX.drawn [(0,.q),(1,.q),(2,.q),(3,.q),(4,.q),(5,.q),(6,.q),(7,.q),(8,.q),(9,.q),(10,.q),(11,.q),(12,.q),(13,.t)] (fun L=>L) (hP ▸ T.mixed) (by kernel_rfl) (by exact Less.refl _) ?_
  simp only [go_sem,stK_e,add_addS,ia_someH,hP,h5_23,h5_0,h5_2,h5_6,h5_21,h5_22,q1,q2]
  refine ⟨_,Cell.at 0 rfl rfl,_,Cell.at 0 rfl rfl,?_⟩
  try simp only [go_sem,stK_e,add_addS,ia_someH,hP,h5_23,h5_0,h5_2,h5_6,h5_21,h5_22,q1,q2]
  refine ⟨by omega,_,Cell.at 0 rfl rfl,?_⟩
  try simp only [go_sem,stK_e,add_addS,ia_someH,hP,h5_23,h5_0,h5_2,h5_6,h5_21,h5_22,q1,q2]
  refine ⟨by omega,?_⟩
  try simp only [go_sem,stK_e,add_addS,ia_someH,hP,h5_23,h5_0,h5_2,h5_6,h5_21,h5_22,q1,q2]
  rw [fieldIn_val f hw]
  refine ⟨callable_put f,?_⟩
  refine SCall.mono (put_spec (i := 1) hP f rfl) ?_
  rintro v_ L_ ⟨hv_,hL_⟩
  rw [hv_,hL_]
  clear hv_ hL_ v_ L_
  try simp only [go_sem,stK_e,add_addS,ia_someH,hP,h5_23,h5_0,h5_2,h5_6,h5_21,h5_22,q1,q2]
  refine hK17 _ _ ?_
  try clear hK17 K17
  refine SX.live [0,2,6,21,22,23] (fun T6 hT6=>?_)
  simp only [go_sem,stK_e,add_addS,ia_someH,forall_mem_cons',forall_mem_nil',hP,h5_23,h5_0,h5_2,h5_6,h5_21,h5_22] at hT6
  obtain ⟨h6_0,h6_2,h6_6,h6_21,h6_22,h6_23⟩ := hT6
  clear h5_23 h5_0 h5_2 h5_6 h5_21 h5_22 T5
  refine SX.region ?_
  simp only [go_sem,stK_e,add_addS,ia_someH,hP,h6_0,h6_2,h6_6,h6_21,h6_22,h6_23]
  refine hK13 (j + 1) _ (some (g6,.cells (f.into (decT w r j) (fieldIn w f)).cells.toArray 60 (0,0)) :: some (g4,.cells [.int .u8 (r.op : Int),.int .u16 (r.mask : Int),.int .u16 (r.word : Int),.string r.name,.slice FA r.fs.length fc].toArray 82 (0,0)) :: (H ++ some (g2,.cells [.int .u8 0,.int .u8 0,.int .u8 0,.int .u8 0,.int .u8 0,.int .u16 0].toArray 60 (0,0)) :: L)) _ (by first | exact Less.refl _ | exact Less.drop _ _ | exact Less.drops (Less.drop _ _) | exact Less.drops (Less.drops (Less.drop _ _)) | exact Less.drops (Less.drops (Less.drops (Less.drop _ _))) | exact Less.drops (Less.drops (Less.drops (Less.drops (Less.drop _ _))))) ?_ ?_
  ·try dsimp only
   refine ⟨?_,?_,?_,?_,?_,?_,?_,?_⟩
   ·simp only [go_sem,stK_e,add_addS,ia_someH,hP,h6_0,h6_2,h6_6,h6_21,h6_22,h6_23]
    rw [inc64 (by omega)]
   ·simp only [go_sem,stK_e,add_addS,ia_someH,hP,h6_0,h6_2,h6_6,h6_21,h6_22,h6_23]
   ·simp only [go_sem,stK_e,add_addS,ia_someH,hP,h6_0,h6_2,h6_6,h6_21,h6_22,h6_23]
   ·simp only [go_sem,stK_e,add_addS,ia_someH,hP,h6_0,h6_2,h6_6,h6_21,h6_22,h6_23]
   ·simp only [go_sem,stK_e,add_addS,ia_someH,hP,h6_0,h6_2,h6_6,h6_21,h6_22,h6_23]
   ·simp only [go_sem,stK_e,add_addS,ia_someH,hP,h6_0,h6_2,h6_6,h6_21,h6_22,h6_23]
   ·rw [decT_succ hf0]
   omega
  (try dsimp only); omega
 clear hX16 hY16 X16 Y16
 refine SX.exit ?_
 try simp only [andThen_normal,andThen_ret,andThen_exit,inBlk_normal,inBlk_ret,inBlk_exit,Nat.reduceEqDiff,if_true,if_false,reduceIte]
 refine hK11 _ _ ?_
 try clear hK11 K11
 refine SX.seq_k fun K19 hK19=>?_
 obtain rfl : j = r.fs.length := by omega
 refine SX.region ?_
 simp only [go_sem,stK_e,add_addS,ia_someH,hP,h5_23,h5_0,h5_2,h5_6,h5_21,h5_22]
 (iterate 6 refine ⟨_,Cell.at 0 rfl rfl,?_⟩)
 try simp only [go_sem,stK_e,add_addS,ia_someH,hP,h5_23,h5_0,h5_2,h5_6,h5_21,h5_22]
 refine ⟨H.length + 2,_,_,_,by rw [List.getElem?_cons_succ,List.getElem?_cons_succ]; exact get_mid _ _ _,by simp,.inr (Nat.zero_le _),?_⟩
 try simp only [go_sem,stK_e,add_addS,ia_someH,hP,h5_23,h5_0,h5_2,h5_6,h5_21,h5_22]
 rw [set_mid1]
 refine hK19 _ _ ?_
 try clear hK19 K19
 refine SX.ret ?_
 simp only [andThen_normal,andThen_ret,andThen_exit,inBlk_normal,inBlk_ret,inBlk_exit,Nat.reduceEqDiff,if_true,if_false,reduceIte,retQ_ret]
 try simp only [go_sem,stK_e,add_addS,ia_someH,res0,res1,res2,res3,resX,resK,oneOr,hP,h5_23,h5_0,h5_2,h5_6,h5_21,h5_22]
 refine ⟨_,L,(Less.sublist (List.sublist_append_right (_ :: _ :: H) _)).trans (Less.drop _ _),⟨_,Cell.at (H.length + 2) (by rw [List.getElem?_cons_succ,List.getElem?_cons_succ]; exact get_mid _ _ _) rfl,_,Cell.at (H.length + 2) (by rw [List.getElem?_cons_succ,List.getElem?_cons_succ]; exact get_mid _ _ _) rfl,_,Cell.at (H.length + 2) (by rw [List.getElem?_cons_succ,List.getElem?_cons_succ]; exact get_mid _ _ _) rfl,_,Cell.at (H.length + 2) (by rw [List.getElem?_cons_succ,List.getElem?_cons_succ]; exact get_mid _ _ _) rfl,_,Cell.at (H.length + 2) (by rw [List.getElem?_cons_succ,List.getElem?_cons_succ]; exact get_mid _ _ _) rfl,_,Cell.at (H.length + 2) (by rw [List.getElem?_cons_succ,List.getElem?_cons_succ]; exact get_mid _ _ _) rfl,rfl⟩,?_⟩
 unfold decodeR decode
 rw [hr]
 exact ⟨rfl,rfl⟩


end Go.Proofs.YtgioegdjeodpiaaGreat
namespace Go.Proofs.YtgioegdjeodpiaaGreat
open Go.RowKit Go.SX
set_option maxHeartbeats 1000000
set_option maxRecDepth 100000

structure GM where
 V : List Int
 I : Int
 PC : Int
 st : List Int
 dl : Int
 sd : Int
 pg : List Int
 mm : List Int
def Wd (l : List Int) : Prop := ∀ x ∈ l,0 ≤ x ∧ x ≤ 65535
structure OkG (g : GM) : Prop where
 V : g.V.length = 16
 Vb : Byte g.V
 I : 0 ≤ g.I ∧ g.I ≤ 65535
 PC : 0 ≤ g.PC ∧ g.PC ≤ 65535
 st : Wd g.st
 dl : 0 ≤ g.dl ∧ g.dl ≤ 255
 sd : 0 ≤ g.sd ∧ g.sd ≤ 255
 pg : Byte g.pg
 mm : Byte g.mm
def GM.cells (g : GM) (sv pv mv : Value) : List Value := [.int .u8 (g.V.getD 0 0),.int .u8 (g.V.getD 1 0),.int .u8 (g.V.getD 2 0),.int .u8 (g.V.getD 3 0),.int .u8 (g.V.getD 4 0),.int .u8 (g.V.getD 5 0),.int .u8 (g.V.getD 6 0),.int .u8 (g.V.getD 7 0),.int .u8 (g.V.getD 8 0),.int .u8 (g.V.getD 9 0),.int .u8 (g.V.getD 10 0),.int .u8 (g.V.getD 11 0),.int .u8 (g.V.getD 12 0),.int .u8 (g.V.getD 13 0),.int .u8 (g.V.getD 14 0),.int .u8 (g.V.getD 15 0),.int .u16 g.I,.int .u16 g.PC,sv,.int .u8 g.dl,.int .u8 g.sd,pv,mv]
structure Fnt where
 at_ : List Int
 from_ : Int
 bs : List Int
structure OkF (f : Fnt) : Prop where
 at_ : f.at_.length = 16
 atb : Wd f.at_
 from_ : 0 ≤ f.from_ ∧ f.from_ ≤ 65535
 bs : Byte f.bs
def Fnt.cells (f : Fnt) (fv : Value) : List Value := [.int .u16 (f.at_.getD 0 0),.int .u16 (f.at_.getD 1 0),.int .u16 (f.at_.getD 2 0),.int .u16 (f.at_.getD 3 0),.int .u16 (f.at_.getD 4 0),.int .u16 (f.at_.getD 5 0),.int .u16 (f.at_.getD 6 0),.int .u16 (f.at_.getD 7 0),.int .u16 (f.at_.getD 8 0),.int .u16 (f.at_.getD 9 0),.int .u16 (f.at_.getD 10 0),.int .u16 (f.at_.getD 11 0),.int .u16 (f.at_.getD 12 0),.int .u16 (f.at_.getD 13 0),.int .u16 (f.at_.getD 14 0),.int .u16 (f.at_.getD 15 0),.int .u16 f.from_,fv]
structure Feed where
 rnd : Int
 keys : Int
 key : Int
structure OkD (d : Feed) : Prop where
 rnd : 0 ≤ d.rnd ∧ d.rnd ≤ 255
 keys : 0 ≤ d.keys ∧ d.keys ≤ 65535
def Feed.cells (d : Feed) : List Value := [.int .u8 d.rnd,.int .u16 d.keys,.int .i64 d.key]
def pcells (g : GM) (sv pv mv : Value) (o : Ord) (f : Fnt) (fv : Value) (d : Feed) : List Value := g.cells sv pv mv ++ (o.cells ++ (f.cells fv ++ d.cells))
structure Rows (g : GM) (sv pv mv : Value) (ss sp sm : Slot) : Prop where
 st : RowI .u16 23 sv g.st ss
 pg : RowI .u8 5 pv g.pg sp
 mm : RowI .u8 5 mv g.mm sm
abbrev PS (gp : Nat) (g : GM) (sv pv mv : Value) (o : Ord) (f : Fnt) (fv : Value) (d : Feed) : Slot := some (gp,.cells (pcells g sv pv mv o f fv d).toArray 65 (0,0))
def mres (gp : Nat) (o : Ord) (f : Fnt) (fv : Value) (d : Feed) (L : Hp) (r : Int × GM) (v : Value) (L' : Hp) : Prop :=
 v = .int .u8 r.1 ∧ ∃ sv pv mv ss sp sm,L' = PS gp r.2 sv pv mv o f fv d :: ss :: sp :: sm :: L ∧ Rows r.2 sv pv mv ss sp sm
theorem byte_at {l : List Int} (h : Byte l) (i : Nat) : 0 ≤ l.getD i 0 ∧ l.getD i 0 ≤ 255 := by
 rw [List.getD_eq_getElem?_getD]
 cases hi : l[i]? with
 | none=>simp
 | some x=>exact h x (List.mem_of_getElem? hi)
theorem word_at {l : List Int} (h : Wd l) (i : Nat) : 0 ≤ l.getD i 0 ∧ l.getD i 0 ≤ 65535 := by
 rw [List.getD_eq_getElem?_getD]
 cases hi : l[i]? with
 | none=>simp
 | some x=>exact h x (List.mem_of_getElem? hi)
theorem byte_set {l : List Int} (h : Byte l) {i : Nat} {x : Int} (hx : 0 ≤ x ∧ x ≤ 255) : Byte (l.set i x) := fun y hy=>by
 rcases List.mem_or_eq_of_mem_set hy with h1 | h1
 ·exact h y h1
 rw [h1]; exact hx
section
variable {g : GM} {sv pv mv : Value} {o : Ord} {f : Fnt} {fv : Value} {d : Feed}
theorem pcells_length : (pcells g sv pv mv o f fv d).length = 50 := rfl
theorem pV {x : Nat} (h : x < 16) : (pcells g sv pv mv o f fv d)[x]? = some (.int .u8 (g.V.getD x 0)) := by
 match x,h with
 | 0,_ | 1,_ | 2,_ | 3,_ | 4,_ | 5,_ | 6,_ | 7,_ | 8,_ | 9,_ | 10,_ | 11,_ | 12,_ | 13,_ | 14,_ | 15,_=>rfl
 | n + 16,h=>omega
theorem getD_set (l : List Int) (i j : Nat) (b : Int) (h : i < l.length) : (l.set i b).getD j 0 = if i = j then b else l.getD j 0 := by
 rw [List.getD_eq_getElem?_getD,List.getElem?_set,List.getD_eq_getElem?_getD]
 by_cases e : i = j
 ·subst e; simp [h]
 simp [e]
theorem pV_set {x : Nat} {b : Int} (hl : g.V.length = 16) (h : x < 16) : (pcells g sv pv mv o f fv d).set x (.int .u8 b) = pcells { g with V := g.V.set x b } sv pv mv o f fv d := by
 have key : ∀ j,(g.V.set x b).getD j 0 = if x = j then b else g.V.getD j 0 := fun j=>getD_set g.V x j b (by omega)
 unfold pcells GM.cells
 simp only [key]
 match x,h with
 | 0,_ | 1,_ | 2,_ | 3,_ | 4,_ | 5,_ | 6,_ | 7,_ | 8,_ | 9,_ | 10,_ | 11,_ | 12,_ | 13,_ | 14,_ | 15,_=>rfl
 | n + 16,h=>omega
theorem pAt {x : Nat} (h : x < 16) : (pcells g sv pv mv o f fv d)[29 + x]? = some (.int .u16 (f.at_.getD x 0)) := by
 match x,h with
 | 0,_ | 1,_ | 2,_ | 3,_ | 4,_ | 5,_ | 6,_ | 7,_ | 8,_ | 9,_ | 10,_ | 11,_ | 12,_ | 13,_ | 14,_ | 15,_=>rfl
 | n + 16,h=>omega
end
theorem inside_spec {Γ : Ctx} (hP : Γ.P = Tryz.prog) {L : Hp} {a : Int} :
  SCall Γ 33 #[(.int .i64 a)] L (fun v L'=>v = .bool (decide (512 ≤ a ∧ a < 3744)) ∧ L' = L) := by
 refine SCall.enter (n := 9) (res1 2) (hP ▸ Tryz.func33) rfl rfl (by simp) (res1_ok rfl) ?_
 refine SX.seq_k fun K1 hK1=>?_
 refine SX.region_d [some 2] rfl (fun ops hops=>?_)
 unfold Dsts at hops
 simp (dsimp:=false)(disch:=omega) only [go_sem,ia_someH,hP,hops]
 refine hK1 _ _ ?_
 try clear hK1 K1
 refine SX.seq_k fun K2 hK2=>?_
 refine SX.region_xd [some 3,some 4,some 5,some 6,some 7,some 8,some 2] rfl (fun ops hops=>?_)
 unfold Dsts at hops
 refine RX.live [0] (fun T1 hT1=>?_)
 simp only [forall_mem_cons',forall_mem_nil',go_sem,ia_someH,hP] at hT1
 have h1_0 := hT1; clear hT1
 refine RX.join 6 (fun (ss : Unit) T L'=>T 8 = .bool (decide (512 ≤ a ∧ a < 3744)) ∧ L' = L ∧ (True)) (fun K3 hK3=>?_) ?_
 ·simp (dsimp:=false)(disch:=omega) only [go_sem,ia_someH,hP,h1_0,hops]
  repeat' (first | refine iteB (fun hg=>?_) (fun hg=>?_) | refine iteI (fun hg=>?_) (fun hg=>?_) | ((first | refine And.intro (by omega) ?_ | fail); try refine stI ?_; try simp (dsimp:=false)(disch:=omega) only [go_sem,ia_someH,hP,h1_0,hops]) | fail)
  all_goals
   refine hK3 () _ (L) _ (by first | exact Less.refl _ | exact Less.drop _ _ | exact Less.drops (Less.drop _ _) | exact Less.drops (Less.drops (Less.drop _ _)) | exact Less.drops (Less.drops (Less.drops (Less.drop _ _))) | exact Less.drops (Less.drops (Less.drops (Less.drops (Less.drop _ _))))) ?_
   try dsimp only
   refine ⟨?_,?_,?_⟩
   ·simp (dsimp:=false)(disch:=omega) only [go_sem,ia_someH,hP,h1_0]
    first | done | exact congrArg _ (decide_eq_decide.2 (by omega)) | exact congrArg _ (decide_eq_true (by omega)).symm | exact congrArg _ (decide_eq_false (by omega)).symm
   ·rfl
   trivial
 intro ss T2 L2 hI
 obtain ⟨h2_8,hL2,hinv⟩ := hI
 replace hL2 := hL2.symm
 subst hL2
 clear h1_0 T1
 refine RX.done ?_
 simp (dsimp:=false)(disch:=omega) only [go_sem,ia_someH,hP,h2_8,hops]
 refine hK2 _ _ ?_
 try clear hK2 K2
 refine SX.ret ?_
 simp only [andThen_normal,andThen_ret,andThen_exit,inBlk_normal,inBlk_ret,inBlk_exit,Nat.reduceEqDiff,if_true,if_false,↓reduceIte,retQ_ret]
 try simp only [res0,res1,res2,res3,stK_e,go_sem,ia_someH,hP,h2_8]
 exact ⟨_,L,(by first | exact Less.refl _ | exact Less.drop _ _ | exact Less.drops (Less.drop _ _) | exact Less.drops (Less.drops (Less.drop _ _)) | exact Less.drops (Less.drops (Less.drops (Less.drop _ _))) | exact Less.drops (Less.drops (Less.drops (Less.drops (Less.drop _ _))))),rfl,rfl,rfl⟩
theorem x_spec {Γ : Ctx} (hP : Γ.P = Tryz.prog) {L : Hp} {gp : Nat} {g : GM} {sv pv mv : Value} {o : Ord} {f : Fnt} {fv : Value} {d : Feed} {i : Nat} (hi : L[i]? = some (PS gp g sv pv mv o f fv d)) (hx : o.x < 16) :
  SCall Γ 73 #[(.pointer (some ⟨gp,0,none⟩))] L (fun v L'=>v = .int .u8 (g.V.getD o.x 0) ∧ L' = L) := by
 refine SCall.enter (n := 14) (res1 2) (hP ▸ Tryz.func73) rfl rfl (by simp) (res1_ok rfl) ?_
 refine SX.seq_k fun K1 hK1=>?_
 refine SX.region_d [some 2] rfl (fun ops hops=>?_)
 unfold Dsts at hops
 simp (dsimp:=false)(disch:=omega) only [go_sem,ia_someH,hP,hops]
 refine hK1 _ _ ?_
 try clear hK1 K1
 refine SX.seq_k fun K2 hK2=>?_
 refine SX.quiet_d (hP ▸ T.mixed) (by kernel_rfl) [some 3,some 4,some 5,some 6,some 7,some 8,some 9,some 10,some 11,some 12,some 13,some 2] rfl (fun ops hops=>?_)
 unfold Dsts at hops
 simp (dsimp:=false)(disch:=omega) only [go_sem,ia_someH,hP,hops]
 refine ⟨_,Cell.at i hi (show (pcells _ _ _ _ _ _ _ _)[24]? = _ from rfl),?_⟩
 try refine stI ?_
 try simp (dsimp:=false)(disch:=omega) only [go_sem,ia_someH,hP,hops]
 refine ⟨_,Cell.at i hi (pV (x := o.x) hx),?_⟩
 try refine stI ?_
 try simp (dsimp:=false)(disch:=omega) only [go_sem,ia_someH,hP,hops]
 refine hK2 _ _ ?_
 try clear hK2 K2
 refine SX.ret ?_
 simp only [andThen_normal,andThen_ret,andThen_exit,inBlk_normal,inBlk_ret,inBlk_exit,Nat.reduceEqDiff,if_true,if_false,↓reduceIte,retQ_ret]
 try simp only [res0,res1,res2,res3,stK_e,go_sem,ia_someH,hP]
 exact ⟨_,_,Less.refl _,rfl,rfl,rfl⟩
theorem y_spec {Γ : Ctx} (hP : Γ.P = Tryz.prog) {L : Hp} {gp : Nat} {g : GM} {sv pv mv : Value} {o : Ord} {f : Fnt} {fv : Value} {d : Feed} {i : Nat} (hi : L[i]? = some (PS gp g sv pv mv o f fv d)) (hx : o.y < 16) :
  SCall Γ 74 #[(.pointer (some ⟨gp,0,none⟩))] L (fun v L'=>v = .int .u8 (g.V.getD o.y 0) ∧ L' = L) := by
 refine SCall.enter (n := 14) (res1 2) (hP ▸ Tryz.func74) rfl rfl (by simp) (res1_ok rfl) ?_
 refine SX.seq_k fun K1 hK1=>?_
 refine SX.region_d [some 2] rfl (fun ops hops=>?_)
 unfold Dsts at hops
 simp (dsimp:=false)(disch:=omega) only [go_sem,ia_someH,hP,hops]
 refine hK1 _ _ ?_
 try clear hK1 K1
 refine SX.seq_k fun K2 hK2=>?_
 refine SX.quiet_d (hP ▸ T.mixed) (by kernel_rfl) [some 3,some 4,some 5,some 6,some 7,some 8,some 9,some 10,some 11,some 12,some 13,some 2] rfl (fun ops hops=>?_)
 unfold Dsts at hops
 simp (dsimp:=false)(disch:=omega) only [go_sem,ia_someH,hP,hops]
 refine ⟨_,Cell.at i hi (show (pcells _ _ _ _ _ _ _ _)[25]? = _ from rfl),?_⟩
 try refine stI ?_
 try simp (dsimp:=false)(disch:=omega) only [go_sem,ia_someH,hP,hops]
 refine ⟨_,Cell.at i hi (pV (x := o.y) hx),?_⟩
 try refine stI ?_
 try simp (dsimp:=false)(disch:=omega) only [go_sem,ia_someH,hP,hops]
 refine hK2 _ _ ?_
 try clear hK2 K2
 refine SX.ret ?_
 simp only [andThen_normal,andThen_ret,andThen_exit,inBlk_normal,inBlk_ret,inBlk_exit,Nat.reduceEqDiff,if_true,if_false,↓reduceIte,retQ_ret]
 try simp only [res0,res1,res2,res3,stK_e,go_sem,ia_someH,hP]
 exact ⟨_,_,Less.refl _,rfl,rfl,rfl⟩
theorem let_spec {Γ : Ctx} (hP : Γ.P = Tryz.prog) {L : Hp} {gp : Nat} {g : GM} {sv pv mv : Value} {o : Ord} {f : Fnt} {fv : Value} {d : Feed} {b : Int} (hx : o.x < 16) (hV : g.V.length = 16) :
  SCall Γ 75 #[(.pointer (some ⟨gp,0,none⟩)),(.int .u8 b)] (PS gp g sv pv mv o f fv d :: L) (fun v L'=>v = .tuple #[] ∧ L' = PS gp { g with V := g.V.set o.x b } sv pv mv o f fv d :: L) := by
 refine SCall.enter (n := 15) (res0) (hP ▸ Tryz.func75) rfl rfl (by simp) (res0_ok rfl) ?_
 refine SX.drawn_d [(0,.q),(1,.q),(2,.q),(3,.q),(4,.q),(5,.q),(6,.q),(7,.q),(8,.q),(9,.q),(10,.q),(11,.t)] (fun L=>L) (hP ▸ T.mixed) (by kernel_rfl) (by exact Less.refl _) [some 4,some 5,some 6,some 7,some 8,some 9,some 10,some 11,some 12,some 13,some 14,none] rfl (fun ops hops hopl=>?_)
 unfold Dsts at hops
 simp (dsimp:=false)(disch:=omega) only [go_sem,ia_someH,hP,hops,hopl]
 refine ⟨_,Cell.at 0 rfl (show (pcells _ _ _ _ _ _ _ _)[24]? = _ from rfl),?_⟩
 try refine stI ?_
 try simp (dsimp:=false)(disch:=omega) only [go_sem,ia_someH,hP,hops,hopl]
 refine ⟨0,_,_,_,rfl,by rw [pcells_length]; omega,.inr (Nat.zero_le _),?_⟩
 try refine stI ?_
 try simp (dsimp:=false)(disch:=omega) only [go_sem,ia_someH,hP,hops,hopl]
 rw [pV_set hV hx]
 simp only [andThen_normal,andThen_ret,andThen_exit,inBlk_normal,inBlk_ret,inBlk_exit,Nat.reduceEqDiff,if_true,if_false,↓reduceIte,retQ_normal]
 try simp only [res0,res1,res2,res3,stK_e,go_sem,ia_someH,hP]
 exact ⟨_,_,Less.refl _,rfl,rfl,rfl⟩
theorem truth_spec {Γ : Ctx} (hP : Γ.P = Tryz.prog) {L : Hp} (b : Bool) :
  SCall Γ 77 #[(.bool b)] L (fun v L'=>v = .int .u8 (if b = true then 1 else 0) ∧ L' = L) := by
 refine SCall.enter (n := 4) (res1 2) (hP ▸ Tryz.func77) rfl rfl (by simp) (res1_ok rfl) ?_
 refine SX.seq_k fun K1 hK1=>?_
 refine SX.region_d [some 2] rfl (fun ops hops=>?_)
 unfold Dsts at hops
 simp (dsimp:=false)(disch:=omega) only [go_sem,ia_someH,hP,hops]
 refine hK1 _ _ ?_
 try clear hK1 K1
 refine SX.seq_k fun K2 hK2=>?_
 refine SX.seq_k fun K3 hK3=>?_
 refine SX.region_d [some 3] rfl (fun ops hops=>?_)
 unfold Dsts at hops
 simp (dsimp:=false)(disch:=omega) only [go_sem,ia_someH,hP,hops]
 refine hK3 _ _ ?_
 try clear hK3 K3
 refine SX.cond_k fun X4 Y4 hX4 hY4=>?_
 simp (dsimp:=false)(disch:=omega) only [go_sem,ia_someH,hP,condVC]
 refine ⟨fun hc3=>hX4 ?_,fun hc3=>hY4 ?_⟩
 ·clear hX4 hY4 X4 Y4
  refine SX.seq_k fun K5 hK5=>?_
  refine SX.region_d [some 2] rfl (fun ops hops=>?_)
  unfold Dsts at hops
  simp (dsimp:=false)(disch:=omega) only [go_sem,ia_someH,hP,hops]
  refine hK5 _ _ ?_
  try clear hK5 K5
  refine SX.ret ?_
  simp only [andThen_normal,andThen_ret,andThen_exit,inBlk_normal,inBlk_ret,inBlk_exit,Nat.reduceEqDiff,if_true,if_false,↓reduceIte,retQ_ret]
  try simp only [res0,res1,res2,res3,stK_e,go_sem,ia_someH,hP]
  exact ⟨_,L,(by first | exact Less.refl _ | exact Less.drop _ _ | exact Less.drops (Less.drop _ _) | exact Less.drops (Less.drops (Less.drop _ _)) | exact Less.drops (Less.drops (Less.drops (Less.drop _ _))) | exact Less.drops (Less.drops (Less.drops (Less.drops (Less.drop _ _))))),rfl,by rw [if_pos hc3],rfl⟩
 clear hX4 hY4 X4 Y4
 refine SX.skip ?_
 try simp only [andThen_normal,andThen_ret,andThen_exit,inBlk_normal,inBlk_ret,inBlk_exit,Nat.reduceEqDiff,if_true,if_false,↓reduceIte]
 refine hK2 _ _ ?_
 try clear hK2 K2
 refine SX.seq_k fun K6 hK6=>?_
 refine SX.region_d [some 2] rfl (fun ops hops=>?_)
 unfold Dsts at hops
 simp (dsimp:=false)(disch:=omega) only [go_sem,ia_someH,hP,hops]
 refine hK6 _ _ ?_
 try clear hK6 K6
 refine SX.ret ?_
 simp only [andThen_normal,andThen_ret,andThen_exit,inBlk_normal,inBlk_ret,inBlk_exit,Nat.reduceEqDiff,if_true,if_false,↓reduceIte,retQ_ret]
 try simp only [res0,res1,res2,res3,stK_e,go_sem,ia_someH,hP]
 exact ⟨_,L,(by first | exact Less.refl _ | exact Less.drop _ _ | exact Less.drops (Less.drop _ _) | exact Less.drops (Less.drops (Less.drop _ _)) | exact Less.drops (Less.drops (Less.drops (Less.drop _ _))) | exact Less.drops (Less.drops (Less.drops (Less.drops (Less.drop _ _))))),rfl,by rw [if_neg (by rw [hc3]; decide)],rfl⟩
theorem skip_spec {Γ : Ctx} (hP : Γ.P = Tryz.prog) {L : Hp} {gp : Nat} {g : GM} {sv pv mv : Value} {o : Ord} {f : Fnt} {fv : Value} {d : Feed} {b : Bool} :
  SCall Γ 72 #[(.pointer (some ⟨gp,0,none⟩)),(.bool b)] (PS gp g sv pv mv o f fv d :: L) (fun v L'=>v = .int .u8 1 ∧ L' = PS gp (if b = true then { g with PC := IntKind.u16.wrap (g.PC + 2) } else g) sv pv mv o f fv d :: L) := by
 refine SCall.enter (n := 15) (res1 4) (hP ▸ Tryz.func72) rfl rfl (by simp) (res1_ok rfl) ?_
 refine SX.seq_k fun K1 hK1=>?_
 refine SX.region_d [some 4] rfl (fun ops hops=>?_)
 unfold Dsts at hops
 simp (dsimp:=false)(disch:=omega) only [go_sem,ia_someH,hP,hops]
 refine hK1 _ _ ?_
 try clear hK1 K1
 refine SX.seq_k fun K2 hK2=>?_
 refine SX.seq_k fun K3 hK3=>?_
 refine SX.region_d [some 5] rfl (fun ops hops=>?_)
 unfold Dsts at hops
 simp (dsimp:=false)(disch:=omega) only [go_sem,ia_someH,hP,hops]
 refine hK3 _ _ ?_
 try clear hK3 K3
 refine SX.cond_k fun X4 Y4 hX4 hY4=>?_
 simp (dsimp:=false)(disch:=omega) only [go_sem,ia_someH,hP,condVC]
 refine ⟨fun hc5=>hX4 ?_,fun hc5=>hY4 ?_⟩
 ·clear hX4 hY4 X4 Y4
  refine SX.region_d [some 6,some 7,some 8,some 9,some 10,some 11,some 12,some 13,some 14,none] rfl (fun ops hops=>?_)
  unfold Dsts at hops
  simp (dsimp:=false)(disch:=omega) only [go_sem,ia_someH,hP,hops]
  refine ⟨_,Cell.at 0 rfl (show (pcells _ _ _ _ _ _ _ _)[17]? = _ from rfl),?_⟩
  try refine stI ?_
  try simp (dsimp:=false)(disch:=omega) only [go_sem,ia_someH,hP,hops]
  refine ⟨0,_,_,_,rfl,by rw [pcells_length]; omega,.inr (by decide),?_⟩
  try refine stI ?_
  try simp (dsimp:=false)(disch:=omega) only [go_sem,ia_someH,hP,hops]
  refine hK2 _ _ ?_
  try clear hK2 K2
  refine SX.live [] (fun T1 hT1=>?_)
  clear hT1
  refine SX.seq_k fun K5 hK5=>?_
  refine SX.region_d [some 4] rfl (fun ops hops=>?_)
  unfold Dsts at hops
  simp (dsimp:=false)(disch:=omega) only [go_sem,ia_someH,hP,hops]
  refine hK5 _ _ ?_
  try clear hK5 K5
  refine SX.ret ?_
  simp only [andThen_normal,andThen_ret,andThen_exit,inBlk_normal,inBlk_ret,inBlk_exit,Nat.reduceEqDiff,if_true,if_false,↓reduceIte,retQ_ret]
  try simp only [res0,res1,res2,res3,stK_e,go_sem,ia_someH,hP]
  exact ⟨_,_,Less.refl _,rfl,rfl,by rw [if_pos hc5]; rfl⟩
 clear hX4 hY4 X4 Y4
 refine SX.skip ?_
 try simp only [andThen_normal,andThen_ret,andThen_exit,inBlk_normal,inBlk_ret,inBlk_exit,Nat.reduceEqDiff,if_true,if_false,↓reduceIte]
 refine hK2 _ _ ?_
 try clear hK2 K2
 refine SX.seq_k fun K6 hK6=>?_
 refine SX.region_d [some 4] rfl (fun ops hops=>?_)
 unfold Dsts at hops
 simp (dsimp:=false)(disch:=omega) only [go_sem,ia_someH,hP,hops]
 refine hK6 _ _ ?_
 try clear hK6 K6
 refine SX.ret ?_
 simp only [andThen_normal,andThen_ret,andThen_exit,inBlk_normal,inBlk_ret,inBlk_exit,Nat.reduceEqDiff,if_true,if_false,↓reduceIte,retQ_ret]
 try simp only [res0,res1,res2,res3,stK_e,go_sem,ia_someH,hP]
 exact ⟨_,_,Less.refl _,rfl,rfl,by rw [if_neg (by rw [hc5]; decide)]⟩
theorem flagged_spec {Γ : Ctx} (hP : Γ.P = Tryz.prog) {L : Hp} {gp : Nat} {g : GM} {sv pv mv : Value} {o : Ord} {f : Fnt} {fv : Value} {d : Feed} {b c : Int} (hx : o.x < 16) (hV : g.V.length = 16) :
  SCall Γ 76 #[(.pointer (some ⟨gp,0,none⟩)),(.int .u8 b),(.int .u8 c)] (PS gp g sv pv mv o f fv d :: L) (fun v L'=>v = .int .u8 1 ∧ L' = PS gp { g with V := (g.V.set o.x b).set 15 c } sv pv mv o f fv d :: L) := by
 refine SCall.enter (n := 16) (res1 6) (hP ▸ Tryz.func76) rfl rfl (by simp) (res1_ok rfl) ?_
 refine SX.seq_k fun K1 hK1=>?_
 refine SX.region_d [some 6] rfl (fun ops hops=>?_)
 unfold Dsts at hops
 simp (dsimp:=false)(disch:=omega) only [go_sem,ia_someH,hP,hops]
 refine hK1 _ _ ?_
 try clear hK1 K1
 refine SX.seq_k fun K2 hK2=>?_
 refine SX.region_d [some 7,some 8,some 9] rfl (fun ops hops=>?_)
 unfold Dsts at hops
 simp (dsimp:=false)(disch:=omega) only [go_sem,ia_someH,hP,hops]
 refine SCall.mono (let_spec hP hx hV) ?_
 rintro v_ L_ ⟨hv_,hL_⟩
 rw [hv_,hL_]
 try refine stI ?_
 try simp (dsimp:=false)(disch:=omega) only [go_sem,ia_someH,hP,hops]
 refine hK2 _ _ ?_
 try clear hK2 K2
 refine SX.seq_k fun K3 hK3=>?_
 refine SX.region_d [some 10,some 11,some 12,some 13,some 14,some 15,none] rfl (fun ops hops=>?_)
 unfold Dsts at hops
 simp (dsimp:=false)(disch:=omega) only [go_sem,ia_someH,hP,hops]
 refine ⟨0,_,_,_,rfl,by rw [pcells_length]; omega,.inr (by decide),?_⟩
 try refine stI ?_
 try simp (dsimp:=false)(disch:=omega) only [go_sem,ia_someH,hP,hops]
 rw [pV_set (by simp [hV]) (by decide)]
 refine hK3 _ _ ?_
 try clear hK3 K3
 refine SX.live [] (fun T1 hT1=>?_)
 clear hT1
 refine SX.seq_k fun K4 hK4=>?_
 refine SX.region_d [some 6] rfl (fun ops hops=>?_)
 unfold Dsts at hops
 simp (dsimp:=false)(disch:=omega) only [go_sem,ia_someH,hP,hops]
 refine hK4 _ _ ?_
 try clear hK4 K4
 refine SX.ret ?_
 simp only [andThen_normal,andThen_ret,andThen_exit,inBlk_normal,inBlk_ret,inBlk_exit,Nat.reduceEqDiff,if_true,if_false,↓reduceIte,retQ_ret]
 try simp only [res0,res1,res2,res3,stK_e,go_sem,ia_someH,hP]
 exact ⟨_,_,Less.refl _,rfl,rfl,rfl⟩


end Go.Proofs.YtgioegdjeodpiaaGreat
namespace Go.Proofs.YtgioegdjeodpiaaGreat
open Go.RowKit Go.SX
open Go.SX renaming ia_someH → Φa
set_option maxHeartbeats 1000000
set_option maxRecDepth 100000

def atG (g : GM) (f : Fnt) (a : Int) : Option Int :=
 if 512 ≤ a ∧ a < 3744 then some (g.mm.getD (a - 512).toNat 0)
 else if 0 ≤ a - f.from_ ∧ a - f.from_ < f.bs.length then some (f.bs.getD (a - f.from_).toNat 0) else none
theorem atG_byte {g : GM} {f : Fnt} (hg : Byte g.mm) (hf : Byte f.bs) {a x : Int} (h : atG g f a = some x) : 0 ≤ x ∧ x ≤ 255 := by
 unfold atG at h
 split at h
 ·cases h; exact byte_at hg _
 split at h
 ·cases h; exact byte_at hf _
 cases h
def rowG (g : GM) (f : Fnt) : Nat → Option (List Int)
 | 0=>some []
 | k + 1=>match rowG g f k with
  | some l=>(atG g f (g.I + (k : Int))).map fun b=>l ++ [b]
  | none=>none
theorem rowG_length {g : GM} {f : Fnt} : ∀ {n : Nat} {l : List Int},rowG g f n = some l → l.length = n
 | 0,l,h=>by cases h; rfl
 | n + 1,l,h=>by
  rw [rowG] at h
  split at h
  ·rename_i l' hl
   cases ha : atG g f (g.I + (n : Int)) with
   | none=>rw [ha] at h; cases h
   | some b=>rw [ha] at h; cases h; simp [rowG_length hl]
  cases h
theorem rowG_byte {g : GM} {f : Fnt} (hg : Byte g.mm) (hf : Byte f.bs) : ∀ {n : Nat} {l : List Int},rowG g f n = some l → Byte l
 | 0,l,h=>by cases h; intro x hx; cases hx
 | n + 1,l,h=>by
  rw [rowG] at h
  split at h
  ·rename_i l' hl
   cases ha : atG g f (g.I + (n : Int)) with
   | none=>rw [ha] at h; cases h
   | some b =>
    rw [ha] at h; cases h
    intro x hx
    rcases List.mem_append.1 hx with h1 | h1
    ·exact rowG_byte hg hf hl x h1
    rw [List.mem_singleton.1 h1]; exact atG_byte hg hf ha
  cases h
theorem rowG_none {g : GM} {f : Fnt} {k : Nat} (h : rowG g f k = none) : ∀ n,k ≤ n → rowG g f n = none
 | n,hn=>by
  obtain ⟨m,rfl⟩ := Nat.exists_eq_add_of_le hn
  induction m with
  | zero=>exact h
  | succ m ih=>rw [Nat.add_succ,rowG,ih (Nat.le_add_right _ _)]
def onePair (x : Option Int) : Value := .tuple #[.int .u8 (x.getD 0),.bool x.isSome]
theorem getD_some {l : List Int} {i : Nat} (h : i < l.length) : l[i]? = some (l.getD i 0) := by
 rw [List.getD_eq_getElem?_getD,List.getElem?_eq_getElem h]; rfl
theorem at_spec {Γ : Ctx} (hP : Γ.P = Tryz.prog) {L : Hp} {gp : Nat} {g : GM} {sv pv mv : Value} {o : Ord} {f : Fnt} {fv : Value} {d : Feed} {a : Int} {i : Nat} (hi : L[i]? = some (PS gp g sv pv mv o f fv d)) (ha : 0 ≤ a ∧ a ≤ 100000) (hm : SlI .u8 (Cell Γ (L)) mv g.mm) (hf : SlI .u8 (Cell Γ (L)) fv f.bs) (hml : g.mm.length = 3232) (hfl : f.bs.length ≤ 65536) (hfr : 0 ≤ f.from_ ∧ f.from_ ≤ 65535) :
  SCall Γ 91 #[(.pointer (some ⟨gp,0,none⟩)),(.int .i64 a)] L (fun v L'=>v = onePair (atG g f a) ∧ L' = L) := by
 refine SCall.enter (n := 46) (res2 4 5) (hP ▸ Tryz.func91) rfl rfl (by simp) (res2_ok rfl) ?_
 refine SX.seq_k fun K1 hK1=>?_
 refine SX.region_d [some 4,some 5] rfl (fun ops hops=>?_)
 unfold Dsts at hops
 simp (dsimp:=false)(disch:=omega) only [go_sem,Φa,hP,hops]
 refine hK1 _ _ ?_
 try clear hK1 K1
 refine SX.seq_k fun K2 hK2=>?_
 refine SX.seq_k fun K3 hK3=>?_
 refine SX.region_d [some 7,some 8] rfl (fun ops hops=>?_)
 unfold Dsts at hops
 simp (dsimp:=false)(disch:=omega) only [go_sem,Φa,hP,hops]
 repeat' ((first | (refine SCall.mono (inside_spec hP) ?_; rintro v_ L_ ⟨hv_,hL_⟩; rw [hv_,hL_]; clear hv_ hL_ v_ L_) | refine ⟨_,inside_spec hP,?_⟩ | refine ⟨_,fun L0 hl0=>inside_spec hP,?_⟩ | refine And.intro (by omega) ?_ | fail); try refine stI ?_; try simp (dsimp:=false)(disch:=omega) only [go_sem,Φa,hP,hops])
 refine hK3 _ _ ?_
 try clear hK3 K3
 refine SX.cond_k fun X4 Y4 hX4 hY4=>?_
 simp (dsimp:=false)(disch:=omega) only [go_sem,Φa,hP,condVC]
 refine ⟨fun hc8=>hX4 ?_,fun hc8=>hY4 ?_⟩
 ·clear hX4 hY4 X4 Y4
  refine SX.seq_k fun K5 hK5=>?_
  obtain ⟨A,c,rfl,hc,hA⟩ := id hm
  have hin : 512 ≤ a ∧ a < 3744 := by first | exact hc8 | exact of_decide_eq_true hc8
  have hsub : IntKind.i64.wrap (a - 512) = a - 512 := w64 (by omega)
  obtain ⟨ad,rfl,hcm⟩ := hA (a - 512).toNat _ (getD_some (by omega))
  rw [Nat.mul_one] at hcm
  change Cell Γ _ _ (.int .u8 _) at hcm
  have hba : 0 ≤ a - 512 ∧ a - 512 < (g.mm.length : Int) := by omega
  refine SX.region_d [some 9,some 10,some 11,some 12,some 13,some 14,some 15,some 16,some 17,some 4,some 5] rfl (fun ops hops=>?_)
  unfold Dsts at hops
  simp (dsimp:=false)(disch:=omega) only [go_sem,Φa,hP,hops]
  try refine stI ?_
  try simp (dsimp:=false)(disch:=omega) only [go_sem,Φa,hP,hops]
  refine ⟨_,Cell.at i hi (show (pcells _ _ _ _ _ _ _ _)[22]? = _ from rfl),?_⟩
  try refine stI ?_
  try simp (dsimp:=false)(disch:=omega) only [go_sem,Φa,hP,hops]
  refine ⟨_,hcm,?_⟩
  try refine stI ?_
  try simp (dsimp:=false)(disch:=omega) only [go_sem,Φa,hP,hops]
  refine hK5 _ _ ?_
  try clear hK5 K5
  refine SX.ret ?_
  simp only [andThen_normal,andThen_ret,andThen_exit,inBlk_normal,inBlk_ret,inBlk_exit,Nat.reduceEqDiff,if_true,if_false,↓reduceIte,retQ_ret]
  try simp only [res0,res1,res2,res3,stK_e,go_sem,Φa,hP]
  exact ⟨_,_,Less.refl _,rfl,by unfold atG; rw [if_pos hin]; rfl,rfl⟩
 clear hX4 hY4 X4 Y4
 refine SX.skip ?_
 try simp only [andThen_normal,andThen_ret,andThen_exit,inBlk_normal,inBlk_ret,inBlk_exit,Nat.reduceEqDiff,if_true,if_false,↓reduceIte]
 refine hK2 _ _ ?_
 try clear hK2 K2
 refine SX.seq_k fun K6 hK6=>?_
 refine SX.seq_k fun K7 hK7=>?_
 have hnin : ¬ (512 ≤ a ∧ a < 3744) := by first | exact hc8 | exact of_decide_eq_false hc8
 obtain ⟨F,fc,rfl,hfc,hfA⟩ := id hf
 refine SX.region_d [some 18,some 19,some 20,some 21,some 22,some 23,some 24,some 25,some 6] rfl (fun ops hops=>?_)
 unfold Dsts at hops
 simp (dsimp:=false)(disch:=omega) only [go_sem,Φa,hP,hops]
 refine ⟨_,Cell.at i hi (show (pcells _ _ _ _ _ _ _ _)[45]? = _ from rfl),?_⟩
 try refine stI ?_
 try simp (dsimp:=false)(disch:=omega) only [go_sem,Φa,hP,hops]
 refine hK7 _ _ ?_
 try clear hK7 K7
 refine SX.live [0,6] (fun T1 hT1=>?_)
 simp only [forall_mem_cons',forall_mem_nil',go_sem,Φa,hP] at hT1
 obtain ⟨h1_0,h1_6⟩ := hT1
 refine SX.seq_k fun K8 hK8=>?_
 refine SX.region_xd [some 26,some 27,some 28,some 29,some 30,some 31,some 32,some 33,some 34,some 35,some 36,some 37] rfl (fun ops hops=>?_)
 unfold Dsts at hops
 refine RX.live [0,6] (fun T2 hT2=>?_)
 simp only [forall_mem_cons',forall_mem_nil',go_sem,Φa,hP,h1_0,h1_6] at hT2
 obtain ⟨h2_0,h2_6⟩ := hT2
 clear h1_0 h1_6 T1
 refine RX.join 12 (fun (ss : Unit) T L'=>T 37 = .bool (decide (0 ≤ a - f.from_ ∧ a - f.from_ < f.bs.length)) ∧ T 0 = T2 0 ∧ T 6 = T2 6 ∧ L' = L ∧ (True)) (fun K9 hK9=>?_) ?_
 ·simp only [h2_0,h2_6] at hK9
  simp (dsimp:=false)(disch:=omega) only [go_sem,Φa,hP,h2_0,h2_6,hops]
  repeat' (first | refine iteB (fun hg=>?_) (fun hg=>?_) | refine iteI (fun hg=>?_) (fun hg=>?_) | ((first | refine ⟨_,Cell.at i hi (show (pcells _ _ _ _ _ _ _ _)[46]? = _ from rfl),?_⟩ | refine And.intro (by omega) ?_ | fail); try refine stI ?_; try simp (dsimp:=false)(disch:=omega) only [go_sem,Φa,hP,h2_0,h2_6,hops]) | fail)
  all_goals
   refine hK9 () _ (L) _ (by first | exact Less.refl _ | exact Less.drop _ _ | exact Less.drops (Less.drop _ _) | exact Less.drops (Less.drops (Less.drop _ _)) | exact Less.drops (Less.drops (Less.drops (Less.drop _ _))) | exact Less.drops (Less.drops (Less.drops (Less.drops (Less.drop _ _))))) ?_
   try dsimp only
   refine ⟨?_,?_,?_,?_,?_⟩
   ·simp (dsimp:=false)(disch:=omega) only [go_sem,Φa,hP,h2_0,h2_6]
    first | done | exact congrArg _ (decide_eq_decide.2 (by omega)) | exact congrArg _ (decide_eq_true (by omega)).symm | exact congrArg _ (decide_eq_false (by omega)).symm
   ·simp (dsimp:=false)(disch:=omega) only [go_sem,Φa,hP,h2_0,h2_6]
   ·simp (dsimp:=false)(disch:=omega) only [go_sem,Φa,hP,h2_0,h2_6]
   ·rfl
   trivial
 intro ss T3 L3 hI
 simp only [h2_0,h2_6] at hI 
 obtain ⟨h3_37,h3_0,h3_6,hL3,hinv⟩ := hI
 replace hL3 := hL3.symm
 subst hL3
 clear h2_0 h2_6 T2
 refine RX.done ?_
 simp (dsimp:=false)(disch:=omega) only [go_sem,Φa,hP,h3_37,h3_0,h3_6,hops]
 refine hK8 _ _ ?_
 try clear hK8 K8
 refine SX.cond_k fun X10 Y10 hX10 hY10=>?_
 simp (dsimp:=false)(disch:=omega) only [go_sem,Φa,hP,h3_37,h3_0,h3_6,condVC]
 refine ⟨fun hc37=>hX10 ?_,fun hc37=>hY10 ?_⟩
 ·clear hX10 hY10 X10 Y10
  refine SX.seq_k fun K11 hK11=>?_
  have hin : 0 ≤ a - f.from_ ∧ a - f.from_ < f.bs.length := by first | exact hc37 | exact of_decide_eq_true hc37
  obtain ⟨ad,rfl,hcf⟩ := hfA (a - f.from_).toNat _ (getD_some (by omega))
  rw [Nat.mul_one] at hcf
  change Cell Γ _ _ (.int .u8 _) at hcf
  refine SX.region_d [some 38,some 39,some 40,some 41,some 42,some 43,some 44,some 45,some 4,some 5] rfl (fun ops hops=>?_)
  unfold Dsts at hops
  simp (dsimp:=false)(disch:=omega) only [go_sem,Φa,hP,h3_37,h3_0,h3_6,hops]
  refine ⟨_,Cell.at i hi (show (pcells _ _ _ _ _ _ _ _)[46]? = _ from rfl),?_⟩
  try refine stI ?_
  try simp (dsimp:=false)(disch:=omega) only [go_sem,Φa,hP,h3_37,h3_0,h3_6,hops]
  refine ⟨_,hcf,?_⟩
  try refine stI ?_
  try simp (dsimp:=false)(disch:=omega) only [go_sem,Φa,hP,h3_37,h3_0,h3_6,hops]
  refine hK11 _ _ ?_
  try clear hK11 K11
  refine SX.ret ?_
  simp only [andThen_normal,andThen_ret,andThen_exit,inBlk_normal,inBlk_ret,inBlk_exit,Nat.reduceEqDiff,if_true,if_false,↓reduceIte,retQ_ret]
  try simp only [res0,res1,res2,res3,stK_e,go_sem,Φa,hP,h3_37,h3_0,h3_6]
  exact ⟨_,_,Less.refl _,rfl,by unfold atG; rw [if_neg hnin,if_pos hin]; rfl,rfl⟩
 clear hX10 hY10 X10 Y10
 refine SX.skip ?_
 try simp only [andThen_normal,andThen_ret,andThen_exit,inBlk_normal,inBlk_ret,inBlk_exit,Nat.reduceEqDiff,if_true,if_false,↓reduceIte]
 refine hK6 _ _ ?_
 try clear hK6 K6
 refine SX.seq_k fun K12 hK12=>?_
 refine SX.region_d [some 4,some 5] rfl (fun ops hops=>?_)
 unfold Dsts at hops
 simp (dsimp:=false)(disch:=omega) only [go_sem,Φa,hP,h3_37,h3_0,h3_6,hops]
 refine hK12 _ _ ?_
 try clear hK12 K12
 refine SX.ret ?_
 simp only [andThen_normal,andThen_ret,andThen_exit,inBlk_normal,inBlk_ret,inBlk_exit,Nat.reduceEqDiff,if_true,if_false,↓reduceIte,retQ_ret]
 try simp only [res0,res1,res2,res3,stK_e,go_sem,Φa,hP,h3_37,h3_0,h3_6]
 exact ⟨_,_,Less.refl _,rfl,by unfold atG; rw [if_neg hnin,if_neg (by first | exact hc37 | exact of_decide_eq_false hc37)]; rfl,rfl⟩

def rowR (H : Hp) (r : Option (List Int)) (v : Value) (L' : Hp) : Prop := match r with
 | some l=>∃ v1 s1,v = .tuple #[v1,.bool true] ∧ L' = s1 :: H ∧ RowI .u8 5 v1 l s1
 | none=>v = .tuple #[.slice none 0 0,.bool false] ∧ L' = H
theorem row_spec {Γ : Ctx} (hP : Γ.P = Tryz.prog) {L : Hp} {gp : Nat} {g : GM} {sv pv mv : Value} {o : Ord} {f : Fnt} {fv : Value} {d : Feed} {n : Nat} (hn : n ≤ 16) (hg : OkG g) (hm : SlI .u8 (Cell Γ (PS gp g sv pv mv o f fv d :: L)) mv g.mm) (hf : SlI .u8 (Cell Γ (PS gp g sv pv mv o f fv d :: L)) fv f.bs) (hml : g.mm.length = 3232) (hfl : f.bs.length ≤ 65536) (hfr : 0 ≤ f.from_ ∧ f.from_ ≤ 65535) :
  SCall Γ 78 #[(.pointer (some ⟨gp,0,none⟩)),(.int .i64 (n : Int))] (PS gp g sv pv mv o f fv d :: L) (rowR (PS gp g sv pv mv o f fv d :: L) (rowG g f n)) := by
 refine SCall.enter (n := 35) (res2 4 5) (hP ▸ Tryz.func78) rfl rfl (by simp) (res2_ok rfl) ?_
 refine SX.seq_k fun K1 hK1=>?_
 refine SX.region_d [some 4,some 5] rfl (fun ops hops=>?_)
 unfold Dsts at hops
 simp (dsimp:=false)(disch:=omega) only [go_sem,Φa,hP,hops]
 refine hK1 _ _ ?_
 try clear hK1 K1
 refine SX.seq_k fun K2 hK2=>?_
 refine SX.less (Less.none _) ?_
 refine SX.region_d [some 6] rfl (fun ops hops=>?_)
 unfold Dsts at hops
 simp (dsimp:=false)(disch:=omega) only [go_sem,Φa,hP,hops]
 refine hK2 _ _ ?_
 try clear hK2 K2
 refine SX.seq_k fun K3 hK3=>?_
 refine SX.seq_k fun K4 hK4=>?_
 refine SX.region_d [some 10,some 11] rfl (fun ops hops=>?_)
 unfold Dsts at hops
 simp (dsimp:=false)(disch:=omega) only [go_sem,Φa,hP,hops]
 refine hK4 _ _ ?_
 try clear hK4 K4
 refine SX.block ?_
 refine SX.live [0,6,10,11] (fun T1 hT1=>?_)
 simp only [forall_mem_cons',forall_mem_nil',go_sem,Φa,hP] at hT1
 obtain ⟨h1_0,h1_6,h1_10,h1_11⟩ := hT1
 refine SX.loop_k (fun (ss : (Nat) × (Value) × (Slot) × (List Int)) T L'=>(fun (k : Nat) (v1 : Value) (s1 : Slot) (l : List Int)=>T 6 = v1 ∧ T 11 = .int .i64 (k : Int) ∧ T 0 = T1 0 ∧ T 10 = T1 10 ∧ L' = s1 :: PS gp g sv pv mv o f fv d :: L ∧ (k ≤ n ∧ rowG g f k = some l ∧ RowI .u8 5 v1 l s1)) (ss.1) (ss.2.1) (ss.2.2.1) (ss.2.2.2)) (fun (ss : (Nat) × (Value) × (Slot) × (List Int))=>(fun (k : Nat) (v1 : Value) (s1 : Slot) (l : List Int)=>n - k) (ss.1) (ss.2.1) (ss.2.2.1) (ss.2.2.2)) (0,.slice none 0 0,none,[]) ?_ ?_
 ·try dsimp only
  refine ⟨?_,?_,?_,?_,?_,?_⟩
  ·first | exact h1_6 | (rw [h1_6]; rfl) | (rw [h1_6]; simp; done)
  ·first | exact h1_11 | (rw [h1_11]; rfl) | (rw [h1_11]; simp; done)
  ·rfl
  ·rfl
  ·rfl
  exact ⟨Nat.zero_le _,rfl,RowI.nil _ _⟩
 intro ss T2 L2 hI K5 hK5
 obtain ⟨k,v1,s1,l⟩ := ss
 try dsimp only at hI hK5
 simp only [h1_0,h1_10] at hI hK5
 obtain ⟨h2_6,h2_11,h2_0,h2_10,hL2,⟨hk,hrg,hrow⟩⟩ := hI
 replace hL2 := hL2.symm
 subst hL2
 clear h1_0 h1_6 h1_10 h1_11 T1
 refine SX.seq_k fun K6 hK6=>?_
 refine SX.region_d [some 12] rfl (fun ops hops=>?_)
 unfold Dsts at hops
 simp (dsimp:=false)(disch:=omega) only [go_sem,Φa,hP,h2_6,h2_11,h2_0,h2_10,hops]
 repeat' ((first | refine And.intro (by omega) ?_ | fail); try refine stI ?_; try simp (dsimp:=false)(disch:=omega) only [go_sem,Φa,hP,h2_6,h2_11,h2_0,h2_10,hops])
 refine hK6 _ _ ?_
 try clear hK6 K6
 refine SX.seq_k fun K7 hK7=>?_
 refine SX.cond_k fun X8 Y8 hX8 hY8=>?_
 simp (dsimp:=false)(disch:=omega) only [go_sem,Φa,hP,h2_6,h2_11,h2_0,h2_10,condVC]
 refine ⟨fun hc12=>hX8 ?_,fun hc12=>hY8 ?_⟩
 ·clear hX8 hY8 X8 Y8
  refine SX.skip ?_
  try simp only [andThen_normal,andThen_ret,andThen_exit,inBlk_normal,inBlk_ret,inBlk_exit,Nat.reduceEqDiff,if_true,if_false,↓reduceIte]
  refine hK7 _ _ ?_
  try clear hK7 K7
  refine SX.seq_k fun K9 hK9=>?_
  refine SX.block ?_
  refine SX.seq_k fun K10 hK10=>?_
  refine SX.region_d [some 13,some 7] rfl (fun ops hops=>?_)
  unfold Dsts at hops
  simp (dsimp:=false)(disch:=omega) only [go_sem,Φa,hP,h2_6,h2_11,h2_0,h2_10,hops]
  refine hK10 _ _ ?_
  try clear hK10 K10
  refine SX.seq_k fun K11 hK11=>?_
  have hIb := hg.I
  refine SX.region_d [some 15,some 16,some 17,some 18,some 19,some 20,some 21,some 22,some 23,some 24,some 14,some 25,some 26,some 8,some 9] rfl (fun ops hops=>?_)
  unfold Dsts at hops
  simp (dsimp:=false)(disch:=omega) only [go_sem,Φa,hP,h2_6,h2_11,h2_0,h2_10,hops,Option.getD_none,Option.getD_some,Option.isSome_none,Option.isSome_some]
  refine ⟨_,Cell.at 1 rfl (show (pcells _ _ _ _ _ _ _ _)[16]? = _ from rfl),?_⟩
  try refine stI ?_
  try simp (dsimp:=false)(disch:=omega) only [go_sem,Φa,hP,h2_6,h2_11,h2_0,h2_10,hops,Option.getD_none,Option.getD_some,Option.isSome_none,Option.isSome_some]
  refine SCall.mono (at_spec (i := 1) hP rfl (by omega) (SlI.cons _ hm) (SlI.cons _ hf) hml hfl hfr) ?_
  rintro v_ L_ ⟨hv_,hL_⟩
  rw [hv_,hL_]
  clear hv_ hL_ v_ L_
  unfold onePair
  rcases hat : atG g f (g.I + (k : Int)) with _ | b
  ·skip
   try refine stI ?_
   try refine stI ?_
   try simp (dsimp:=false)(disch:=omega) only [go_sem,Φa,hP,h2_6,h2_11,h2_0,h2_10,hops,Option.getD_none,Option.getD_some,Option.isSome_none,Option.isSome_some]
   refine hK11 _ _ ?_
   try clear hK11 K11
   refine SX.live [0,6,8,9,10,11] (fun T3 hT3=>?_)
   simp only [forall_mem_cons',forall_mem_nil',go_sem,Φa,hP,h2_6,h2_11,h2_0,h2_10] at hT3
   obtain ⟨h3_0,h3_6,h3_8,h3_9,h3_10,h3_11⟩ := hT3
   clear h2_6 h2_11 h2_0 h2_10 T2
   refine SX.seq_k fun K12 hK12=>?_
   refine SX.seq_k fun K13 hK13=>?_
   refine SX.region_d [some 27,some 28] rfl (fun ops hops=>?_)
   unfold Dsts at hops
   simp (dsimp:=false)(disch:=omega) only [go_sem,Φa,hP,h3_0,h3_6,h3_8,h3_9,h3_10,h3_11,hops]
   refine hK13 _ _ ?_
   try clear hK13 K13
   refine SX.cond_k fun X14 Y14 hX14 hY14=>?_
   simp (dsimp:=false)(disch:=omega) only [go_sem,Φa,hP,h3_0,h3_6,h3_8,h3_9,h3_10,h3_11,condVC]
   refine hX14 ?_
   clear hX14 hY14 X14 Y14
   refine SX.seq_k fun K15 hK15=>?_
   refine SX.region_d [some 4,some 5] rfl (fun ops hops=>?_)
   unfold Dsts at hops
   simp (dsimp:=false)(disch:=omega) only [go_sem,Φa,hP,h3_0,h3_6,h3_8,h3_9,h3_10,h3_11,hops]
   refine hK15 _ _ ?_
   try clear hK15 K15
   refine SX.ret ?_
   simp only [andThen_normal,andThen_ret,andThen_exit,inBlk_normal,inBlk_ret,inBlk_exit,Nat.reduceEqDiff,if_true,if_false,↓reduceIte,retQ_ret]
   try simp only [res0,res1,res2,res3,stK_e,go_sem,Φa,hP,h3_0,h3_6,h3_8,h3_9,h3_10,h3_11]
   refine ⟨_,_,Less.drop _ _,rfl,?_⟩
   unfold rowR
   rw [rowG_none (by rw [rowG,hrg]; simp only [hat]; rfl : rowG g f (k + 1) = none) n (by omega)]
   exact ⟨rfl,rfl⟩
  skip
  try refine stI ?_
  try refine stI ?_
  try simp (dsimp:=false)(disch:=omega) only [go_sem,Φa,hP,h2_6,h2_11,h2_0,h2_10,hops,Option.getD_none,Option.getD_some,Option.isSome_none,Option.isSome_some]
  refine hK11 _ _ ?_
  try clear hK11 K11
  refine SX.live [0,6,8,9,10,11] (fun T4 hT4=>?_)
  simp only [forall_mem_cons',forall_mem_nil',go_sem,Φa,hP,h2_6,h2_11,h2_0,h2_10] at hT4
  obtain ⟨h4_0,h4_6,h4_8,h4_9,h4_10,h4_11⟩ := hT4
  clear h2_6 h2_11 h2_0 h2_10 T2
  refine SX.seq_k fun K16 hK16=>?_
  refine SX.seq_k fun K17 hK17=>?_
  refine SX.region_d [some 27,some 28] rfl (fun ops hops=>?_)
  unfold Dsts at hops
  simp (dsimp:=false)(disch:=omega) only [go_sem,Φa,hP,h4_0,h4_6,h4_8,h4_9,h4_10,h4_11,hops]
  refine hK17 _ _ ?_
  try clear hK17 K17
  refine SX.cond_k fun X18 Y18 hX18 hY18=>?_
  simp (dsimp:=false)(disch:=omega) only [go_sem,Φa,hP,h4_0,h4_6,h4_8,h4_9,h4_10,h4_11,condVC]
  refine hY18 ?_
  clear hX18 hY18 X18 Y18
  refine SX.skip ?_
  try simp only [andThen_normal,andThen_ret,andThen_exit,inBlk_normal,inBlk_ret,inBlk_exit,Nat.reduceEqDiff,if_true,if_false,↓reduceIte]
  refine hK16 _ _ ?_
  try clear hK16 K16
  have hll := rowG_length hrg
  refine SX.region_d [some 29,some 30,some 31,some 32,some 6] rfl (fun ops hops=>?_)
  unfold Dsts at hops
  simp (dsimp:=false)(disch:=omega) only [go_sem,Φa,hP,h4_0,h4_6,h4_8,h4_9,h4_10,h4_11,hops]
  intro bb
  try refine stI ?_
  try simp (dsimp:=false)(disch:=omega) only [go_sem,Φa,hP,h4_0,h4_6,h4_8,h4_9,h4_10,h4_11,hops]
  refine YAppend.int1 (i := 0) (hP ▸ T.elS_25) (hP ▸ T.zr_5) rfl rfl hrow (by omega) (by decide) (fun v2 s2 hrow2=>?_)
  try refine stI ?_
  try simp (dsimp:=false)(disch:=omega) only [go_sem,Φa,hP,h4_0,h4_6,h4_8,h4_9,h4_10,h4_11,hops]
  refine hK9 _ _ ?_
  try clear hK9 K9
  refine SX.region_d [some 33,some 11] rfl (fun ops hops=>?_)
  unfold Dsts at hops
  simp (dsimp:=false)(disch:=omega) only [go_sem,Φa,hP,h4_0,h4_6,h4_8,h4_9,h4_10,h4_11,hops]
  repeat' ((first | refine And.intro (by omega) ?_ | fail); try refine stI ?_; try simp (dsimp:=false)(disch:=omega) only [go_sem,Φa,hP,h4_0,h4_6,h4_8,h4_9,h4_10,h4_11,hops])
  refine hK5 (k + 1,v2,s2,l ++ [b]) _ (s2 :: PS gp g sv pv mv o f fv d :: L) _ (by first | exact Less.refl _ | exact Less.drop _ _ | exact Less.drops (Less.drop _ _) | exact Less.drops (Less.drops (Less.drop _ _)) | exact Less.drops (Less.drops (Less.drops (Less.drop _ _))) | exact Less.drops (Less.drops (Less.drops (Less.drops (Less.drop _ _))))) ?_ ?_
  ·try dsimp only
   refine ⟨?_,?_,?_,?_,?_,?_⟩
   ·simp (dsimp:=false)(disch:=omega) only [go_sem,Φa,hP,h4_0,h4_6,h4_8,h4_9,h4_10,h4_11]
    first | done | rfl | skip
   ·simp (dsimp:=false)(disch:=omega) only [go_sem,Φa,hP,h4_0,h4_6,h4_8,h4_9,h4_10,h4_11]
    rfl
   ·simp (dsimp:=false)(disch:=omega) only [go_sem,Φa,hP,h4_0,h4_6,h4_8,h4_9,h4_10,h4_11]
   ·simp (dsimp:=false)(disch:=omega) only [go_sem,Φa,hP,h4_0,h4_6,h4_8,h4_9,h4_10,h4_11]
   ·rfl
   exact ⟨by omega,by rw [rowG,hrg]; simp only [hat,Option.map_some],hrow2⟩
  (try dsimp only); omega
 clear hX8 hY8 X8 Y8
 refine SX.exit ?_
 try simp only [andThen_normal,andThen_ret,andThen_exit,inBlk_normal,inBlk_ret,inBlk_exit,Nat.reduceEqDiff,if_true,if_false,↓reduceIte]
 refine hK3 _ _ ?_
 try clear hK3 K3
 refine SX.seq_k fun K19 hK19=>?_
 refine SX.region_d [some 34,some 4,some 5] rfl (fun ops hops=>?_)
 unfold Dsts at hops
 simp (dsimp:=false)(disch:=omega) only [go_sem,Φa,hP,h2_6,h2_11,h2_0,h2_10,hops]
 refine hK19 _ _ ?_
 try clear hK19 K19
 refine SX.ret ?_
 simp only [andThen_normal,andThen_ret,andThen_exit,inBlk_normal,inBlk_ret,inBlk_exit,Nat.reduceEqDiff,if_true,if_false,↓reduceIte,retQ_ret]
 try simp only [res0,res1,res2,res3,stK_e,go_sem,Φa,hP,h2_6,h2_11,h2_0,h2_10]
 obtain rfl : k = n := by omega
 refine ⟨_,_,Less.refl _,rfl,?_⟩
 unfold rowR
 rw [hrg]
 exact ⟨_,_,rfl,rfl,hrow⟩
def behindG (g : GM) (o : Ord) : GM := { g with I := IntKind.u16.wrap (g.I + ((o.x : Int) + 1)) }
theorem behind_spec {Γ : Ctx} (hP : Γ.P = Tryz.prog) {L : Hp} {gp : Nat} {g : GM} {sv pv mv : Value} {o : Ord} {f : Fnt} {fv : Value} {d : Feed} (hx : o.x < 16) :
  SCall Γ 82 #[(.pointer (some ⟨gp,0,none⟩))] (PS gp g sv pv mv o f fv d :: L) (fun v L'=>v = .int .u8 1 ∧ L' = PS gp (behindG g o) sv pv mv o f fv d :: L) := by
 refine SCall.enter (n := 19) (res1 2) (hP ▸ Tryz.func82) rfl rfl (by simp) (res1_ok rfl) ?_
 refine SX.seq_k fun K1 hK1=>?_
 refine SX.region_d [some 2] rfl (fun ops hops=>?_)
 unfold Dsts at hops
 simp (dsimp:=false)(disch:=omega) only [go_sem,Φa,hP,hops]
 refine hK1 _ _ ?_
 try clear hK1 K1
 refine SX.seq_k fun K2 hK2=>?_
 refine SX.drawn_d [(0,.q),(1,.q),(2,.q),(3,.q),(4,.q),(5,.q),(6,.q),(7,.q),(8,.q),(9,.q),(10,.q),(11,.q),(12,.q),(13,.q),(14,.q),(15,.q),(16,.t)] (fun L=>L) (hP ▸ T.mixed) (by kernel_rfl) (by exact Less.refl _) [some 3,some 4,some 5,some 6,some 7,some 8,some 9,some 10,some 11,some 12,some 13,some 14,some 15,some 16,some 17,some 18,none] rfl (fun ops hops hopl=>?_)
 unfold Dsts at hops
 simp (dsimp:=false)(disch:=omega) only [go_sem,Φa,hP,hops,hopl]
 refine ⟨_,Cell.at 0 rfl (show (pcells _ _ _ _ _ _ _ _)[16]? = _ from rfl),?_⟩
 try refine stI ?_
 try simp (dsimp:=false)(disch:=omega) only [go_sem,Φa,hP,hops,hopl]
 refine ⟨_,Cell.at 0 rfl (show (pcells _ _ _ _ _ _ _ _)[24]? = _ from rfl),?_⟩
 try refine stI ?_
 try simp (dsimp:=false)(disch:=omega) only [go_sem,Φa,hP,hops,hopl]
 refine ⟨0,_,_,_,rfl,by rw [pcells_length]; omega,.inr (by decide),?_⟩
 try refine stI ?_
 try simp (dsimp:=false)(disch:=omega) only [go_sem,Φa,hP,hops,hopl]
 refine hK2 _ _ ?_
 try clear hK2 K2
 refine SX.live [] (fun T1 hT1=>?_)
 clear hT1
 refine SX.seq_k fun K3 hK3=>?_
 refine SX.region_d [some 2] rfl (fun ops hops=>?_)
 unfold Dsts at hops
 simp (dsimp:=false)(disch:=omega) only [go_sem,Φa,hP,hops]
 refine hK3 _ _ ?_
 try clear hK3 K3
 refine SX.ret ?_
 simp only [andThen_normal,andThen_ret,andThen_exit,inBlk_normal,inBlk_ret,inBlk_exit,Nat.reduceEqDiff,if_true,if_false,↓reduceIte,retQ_ret]
 try simp only [res0,res1,res2,res3,stK_e,go_sem,Φa,hP]
 exact ⟨_,_,Less.refl _,rfl,rfl,rfl⟩


end Go.Proofs.YtgioegdjeodpiaaGreat
namespace Go.Proofs.YtgioegdjeodpiaaGreat
open Go.RowKit Go.SX
open Go.SX renaming add_addS → Φa, ia_someH → Φb, stK_e → Φc
set_option maxHeartbeats 1000000
set_option maxRecDepth 100000

def dotB (b : Int) (k : Nat) : Bool := decide (bits .and .u8 (b.fdiv (2 ^ (min (7 - (k : Int)).toNat 8))) 1 = 1)

def bitOf (i : Nat) : Int := (128 : Int).fdiv (2 ^ (min (i % 8) 8))
def putDot (st : Bool × List Int) (i j : Nat) : Bool × List Int :=
 if 64 ≤ i ∨ 32 ≤ j then st
 else (st.1 || !decide (bits .and .u8 (st.2.getD (j * 8 + i / 8) 0) (bitOf i) = 0),st.2.set (j * 8 + i / 8) (bits .xor .u8 (st.2.getD (j * 8 + i / 8) 0) (bitOf i)))
theorem putDot_length (st : Bool × List Int) (i j : Nat) : (putDot st i j).2.length = st.2.length := by
 unfold putDot
 split
 ·rfl
 simp
def heapD (g o r cap : Nat) (junk : List Value) (st : Bool × List Int) (L : Hp) : Hp :=
 some (g,.cells #[.bool st.1] 4 (0,0)) :: some (o,.cells #[.slice (some ⟨r,0,none⟩) 256 cap] 25 (0,0)) :: some (r,.cells (ints .u8 st.2 ++ junk).toArray 5 (0,0)) :: L
theorem putDot_spec {Γ : Ctx} (hP : Γ.P = Tryz.prog) {L : Hp} {i j g o r cap : Nat} {junk : List Value} {st : Bool × List Int} (hi : i < 1000) (hj : j < 1000) (hlen : st.2.length = 256) (hcap : 256 ≤ cap) :
  SCall Γ 93 #[(.int .i64 (i : Int)),(.int .i64 (j : Int)),(.pointer (some ⟨g,0,none⟩)),(.pointer (some ⟨o,0,none⟩))] (heapD g o r cap junk st L) (fun v L'=>v = .tuple #[] ∧ L' = heapD g o r cap junk (putDot st i j) L) := by
 refine SCall.enter (n := 39) (res0) (hP ▸ Tryz.func93) rfl rfl (by simp) (res0_ok rfl) ?_
 refine SX.seq_k fun K1 hK1=>?_
 refine SX.seq_k fun K2 hK2=>?_
 refine SX.region_x ?_
 refine RX.live [0,1,2,3] (fun T1 hT1=>?_)
 simp only [go_sem,Φc,Φa,Φb,forall_mem_cons',forall_mem_nil',hP] at hT1
 obtain ⟨h1_0,h1_1,h1_2,h1_3⟩ := hT1
 refine RX.join 6 (fun (ss : Unit) T L'=>T 13 = .bool (decide (64 ≤ i ∨ 32 ≤ j)) ∧ T 0 = T1 0 ∧ T 1 = T1 1 ∧ T 2 = T1 2 ∧ T 3 = T1 3 ∧ L' = heapD g o r cap junk st L ∧ (True)) (fun K3 hK3=>?_) ?_
 ·simp only [h1_0,h1_1,h1_2,h1_3] at hK3
  simp only [go_sem,Φc,Φa,Φb,hP,h1_0,h1_1,h1_2,h1_3]
  refine iteI (fun hg=>?_) (fun hg=>?_)
  ·skip
   refine hK3 () _ (heapD g o r cap junk st L) _ (by first | exact Less.refl _ | exact Less.drop _ _ | exact Less.drops (Less.drop _ _) | exact Less.drops (Less.drops (Less.drop _ _)) | exact Less.drops (Less.drops (Less.drops (Less.drop _ _))) | exact Less.drops (Less.drops (Less.drops (Less.drops (Less.drop _ _))))) ?_
   try dsimp only
   refine ⟨?_,?_,?_,?_,?_,?_,?_⟩
   ·simp only [go_sem,Φc,Φa,Φb,hP,h1_0,h1_1,h1_2,h1_3]
    first | exact congrArg _ (decide_eq_decide.2 (by omega)) | exact congrArg _ (decide_eq_true (by omega)).symm | exact congrArg _ (decide_eq_false (by omega)).symm
   ·simp only [go_sem,Φc,Φa,Φb,hP,h1_0,h1_1,h1_2,h1_3]
   ·simp only [go_sem,Φc,Φa,Φb,hP,h1_0,h1_1,h1_2,h1_3]
   ·simp only [go_sem,Φc,Φa,Φb,hP,h1_0,h1_1,h1_2,h1_3]
   ·simp only [go_sem,Φc,Φa,Φb,hP,h1_0,h1_1,h1_2,h1_3]
   ·rfl
   trivial
  skip
  refine hK3 () _ (heapD g o r cap junk st L) _ (by first | exact Less.refl _ | exact Less.drop _ _ | exact Less.drops (Less.drop _ _) | exact Less.drops (Less.drops (Less.drop _ _)) | exact Less.drops (Less.drops (Less.drops (Less.drop _ _))) | exact Less.drops (Less.drops (Less.drops (Less.drops (Less.drop _ _))))) ?_
  try dsimp only
  refine ⟨?_,?_,?_,?_,?_,?_,?_⟩
  ·simp only [go_sem,Φc,Φa,Φb,hP,h1_0,h1_1,h1_2,h1_3]
   first | exact congrArg _ (decide_eq_decide.2 (by omega)) | exact congrArg _ (decide_eq_true (by omega)).symm | exact congrArg _ (decide_eq_false (by omega)).symm
  ·simp only [go_sem,Φc,Φa,Φb,hP,h1_0,h1_1,h1_2,h1_3]
  ·simp only [go_sem,Φc,Φa,Φb,hP,h1_0,h1_1,h1_2,h1_3]
  ·simp only [go_sem,Φc,Φa,Φb,hP,h1_0,h1_1,h1_2,h1_3]
  ·simp only [go_sem,Φc,Φa,Φb,hP,h1_0,h1_1,h1_2,h1_3]
  ·rfl
  trivial
 intro ss T2 L2 hI
 simp only [h1_0,h1_1,h1_2,h1_3] at hI 
 obtain ⟨h2_13,h2_0,h2_1,h2_2,h2_3,hL2,hinv⟩ := hI
 replace hL2 := hL2.symm
 subst hL2
 clear h1_0 h1_1 h1_2 h1_3 T1
 refine RX.done ?_
 simp only [go_sem,Φc,Φa,Φb,hP,h2_13,h2_0,h2_1,h2_2,h2_3]
 refine hK2 _ _ ?_
 try clear hK2 K2
 refine SX.cond_k fun X4 Y4 hX4 hY4=>?_
 simp only [go_sem,Φc,Φa,Φb,hP,h2_13,h2_0,h2_1,h2_2,h2_3,condVC]
 refine ⟨fun hc13=>hX4 ?_,fun hc13=>hY4 ?_⟩
 ·clear hX4 hY4 X4 Y4
  refine SX.ret ?_
  simp only [andThen_normal,andThen_ret,andThen_exit,inBlk_normal,inBlk_ret,inBlk_exit,Nat.reduceEqDiff,if_true,if_false,reduceIte,retQ_ret]
  try simp only [go_sem,Φc,Φa,Φb,res0,res1,res2,res3,hP,h2_13,h2_0,h2_1,h2_2,h2_3]
  exact ⟨_,_,Less.refl _,rfl,rfl,by rw [putDot,if_pos hc13]⟩
 clear hX4 hY4 X4 Y4
 refine SX.skip ?_
 simp only [andThen_normal,andThen_ret,andThen_exit,inBlk_normal,inBlk_ret,inBlk_exit,Nat.reduceEqDiff,if_true,if_false,reduceIte]
 refine hK1 _ _ ?_
 try clear hK1 K1
 refine SX.seq_k fun K5 hK5=>?_
 have q1 : IntKind.i64.wrap ((j : Int) * 8) = ((j * 8 : Nat) : Int) := by rw [w64 (by omega)]; rfl
 have q2 : (i : Int).tdiv 8 = ((i / 8 : Nat) : Int) := rfl
 have q3 : (i : Int).tmod 8 = ((i % 8 : Nat) : Int) := rfl
 have q4 : IntKind.i64.wrap ((i / 8 : Nat) : Int) = ((i / 8 : Nat) : Int) := w64 (by omega)
 have q5 : IntKind.i64.wrap (((j * 8 : Nat) : Int) + ((i / 8 : Nat) : Int)) = ((j * 8 + i / 8 : Nat) : Int) := by rw [w64 (by omega)]; rfl
 refine SX.quiet (hP ▸ T.mixed) (by kernel_rfl) ?_
 simp only [go_sem,Φc,Φa,Φb,hP,h2_13,h2_0,h2_1,h2_2,h2_3,q1,q2,q3,q4,q5]
 refine ⟨by omega,?_⟩
 refine hK5 _ _ ?_
 try clear hK5 K5
 refine SX.live [2,3,6,7] (fun T3 hT3=>?_)
 simp only [go_sem,Φc,Φa,Φb,forall_mem_cons',forall_mem_nil',hP,h2_13,h2_0,h2_1,h2_2,h2_3] at hT3
 obtain ⟨h3_2,h3_3,h3_6,h3_7⟩ := hT3
 clear h2_13 h2_0 h2_1 h2_2 h2_3 T2
 refine SX.seq_k fun K6 hK6=>?_
 refine SX.region_x ?_
 refine RX.live [2,3,6,7] (fun T4 hT4=>?_)
 simp only [go_sem,Φc,Φa,Φb,forall_mem_cons',forall_mem_nil',hP,h3_2,h3_3,h3_6,h3_7] at hT4
 obtain ⟨h4_2,h4_3,h4_6,h4_7⟩ := hT4
 clear h3_2 h3_3 h3_6 h3_7 T3
 have hJ : j * 8 + i / 8 < st.2.length := by omega
 have hJc : Cell Γ (heapD g o r cap junk st L) ⟨r,j * 8 + i / 8,none⟩ (.int .u8 (st.2.getD (j * 8 + i / 8) 0)) := Cell.at 2 rfl (ints_app_at hJ)
 refine RX.join 10 (fun (ss : Unit) T L'=>T 31 = .bool (st.1 || !decide (bits .and .u8 (st.2.getD (j * 8 + i / 8) 0) (bitOf i) = 0)) ∧ T 2 = T4 2 ∧ T 3 = T4 3 ∧ T 6 = T4 6 ∧ T 7 = T4 7 ∧ L' = heapD g o r cap junk st L ∧ (True)) (fun K7 hK7=>?_) ?_
 ·simp only [h4_2,h4_3,h4_6,h4_7] at hK7
  simp only [go_sem,Φc,Φa,Φb,hP,h4_2,h4_3,h4_6,h4_7]
  refine ⟨_,Cell.at 0 rfl rfl,?_⟩
  try simp only [go_sem,Φc,Φa,Φb,hP,h4_2,h4_3,h4_6,h4_7]
  refine iteI (fun hg=>?_) (fun hg=>?_)
  ·refine ⟨_,Cell.at 1 rfl rfl,?_⟩
   try simp only [go_sem,Φc,Φa,Φb,hP,h4_2,h4_3,h4_6,h4_7]
   refine ⟨⟨by omega,by omega⟩,_,hJc,?_⟩
   try simp only [go_sem,Φc,Φa,Φb,hP,h4_2,h4_3,h4_6,h4_7]
   refine hK7 () _ (heapD g o r cap junk st L) _ (by first | exact Less.refl _ | exact Less.drop _ _ | exact Less.drops (Less.drop _ _) | exact Less.drops (Less.drops (Less.drop _ _)) | exact Less.drops (Less.drops (Less.drops (Less.drop _ _))) | exact Less.drops (Less.drops (Less.drops (Less.drops (Less.drop _ _))))) ?_
   try dsimp only
   refine ⟨?_,?_,?_,?_,?_,?_,?_⟩
   ·simp only [go_sem,Φc,Φa,Φb,hP,h4_2,h4_3,h4_6,h4_7]
    rw [hg,Bool.false_or]; rfl
   ·simp only [go_sem,Φc,Φa,Φb,hP,h4_2,h4_3,h4_6,h4_7]
   ·simp only [go_sem,Φc,Φa,Φb,hP,h4_2,h4_3,h4_6,h4_7]
   ·simp only [go_sem,Φc,Φa,Φb,hP,h4_2,h4_3,h4_6,h4_7]
   ·simp only [go_sem,Φc,Φa,Φb,hP,h4_2,h4_3,h4_6,h4_7]
   ·rfl
   trivial
  rw [Bool.not_eq_false] at hg
  simp only [hg]
  refine hK7 () _ (heapD g o r cap junk st L) _ (by first | exact Less.refl _ | exact Less.drop _ _ | exact Less.drops (Less.drop _ _) | exact Less.drops (Less.drops (Less.drop _ _)) | exact Less.drops (Less.drops (Less.drops (Less.drop _ _))) | exact Less.drops (Less.drops (Less.drops (Less.drops (Less.drop _ _))))) ?_
  try dsimp only
  refine ⟨?_,?_,?_,?_,?_,?_,?_⟩
  ·simp only [go_sem,Φc,Φa,Φb,hP,h4_2,h4_3,h4_6,h4_7]
   rw [hg,Bool.true_or]
  ·simp only [go_sem,Φc,Φa,Φb,hP,h4_2,h4_3,h4_6,h4_7]
  ·simp only [go_sem,Φc,Φa,Φb,hP,h4_2,h4_3,h4_6,h4_7]
  ·simp only [go_sem,Φc,Φa,Φb,hP,h4_2,h4_3,h4_6,h4_7]
  ·simp only [go_sem,Φc,Φa,Φb,hP,h4_2,h4_3,h4_6,h4_7]
  ·rfl
  trivial
 intro ss T5 L5 hI
 simp only [h4_2,h4_3,h4_6,h4_7] at hI 
 obtain ⟨h5_31,h5_2,h5_3,h5_6,h5_7,hL5,hinv⟩ := hI
 replace hL5 := hL5.symm
 subst hL5
 clear h4_2 h4_3 h4_6 h4_7 T4
 refine RX.done ?_
 simp only [go_sem,Φc,Φa,Φb,hP,h5_31,h5_2,h5_3,h5_6,h5_7]
 refine ⟨0,_,_,_,rfl,by simp,.inr (Nat.zero_le _),?_⟩
 try simp only [go_sem,Φc,Φa,Φb,hP,h5_31,h5_2,h5_3,h5_6,h5_7]
 refine hK6 _ _ ?_
 try clear hK6 K6
 refine SX.region ?_
 simp only [go_sem,Φc,Φa,Φb,hP,h5_31,h5_2,h5_3,h5_6,h5_7]
 refine ⟨_,Cell.at 1 rfl rfl,?_⟩
 try simp only [go_sem,Φc,Φa,Φb,hP,h5_31,h5_2,h5_3,h5_6,h5_7]
 refine ⟨⟨by omega,by omega⟩,_,Cell.at 2 rfl (ints_app_at hJ),?_⟩
 try simp only [go_sem,Φc,Φa,Φb,hP,h5_31,h5_2,h5_3,h5_6,h5_7]
 refine ⟨⟨by omega,by omega⟩,2,_,_,_,rfl,by simp [ints_length]; omega,.inr (Nat.zero_le _),?_⟩
 try simp only [go_sem,Φc,Φa,Φb,hP,h5_31,h5_2,h5_3,h5_6,h5_7]
 rw [ints_app_set hJ]
 simp only [andThen_normal,andThen_ret,andThen_exit,inBlk_normal,inBlk_ret,inBlk_exit,Nat.reduceEqDiff,if_true,if_false,reduceIte,retQ_normal]
 try simp only [go_sem,Φc,Φa,Φb,res0,res1,res2,res3,hP,h5_31,h5_2,h5_3,h5_6,h5_7]
 exact ⟨_,_,Less.refl _,rfl,rfl,by rw [putDot,if_neg hc13]; rfl⟩

def eachI (b : Int) (x y : Nat) (st : Bool × List Int) : Nat → Bool × List Int
 | 0=>st
 | i + 1=>if dotB b i then putDot (eachI b x y st i) (x + i) y else eachI b x y st i
def eachK (rows : List Int) (x y : Nat) (st : Bool × List Int) : Nat → Bool × List Int
 | 0=>st
 | k + 1=>eachI (rows.getD k 0) x (y + k) (eachK rows x y st k) 8
theorem eachI_length (b : Int) (x y : Nat) (st : Bool × List Int) : ∀ i,(eachI b x y st i).2.length = st.2.length
 | 0=>rfl
 | i + 1=>by
  rw [eachI]
  split
  ·rw [putDot_length,eachI_length b x y st i]
  exact eachI_length b x y st i
theorem eachK_length (rows : List Int) (x y : Nat) (st : Bool × List Int) : ∀ k,(eachK rows x y st k).2.length = st.2.length
 | 0=>rfl
 | k + 1=>by rw [eachK,eachI_length,eachK_length rows x y st k]
theorem each_spec {Γ : Ctx} (hP : Γ.P = Tryz.prog) {L : Hp} {x y g o r cap : Nat} {junk : List Value} {st : Bool × List Int} {rows : List Int} {vr : Value} (hx : x < 64) (hy : y < 32) (hr : SlI .u8 (Cell Γ L) vr rows) (hrl : rows.length ≤ 15) (hlen : st.2.length = 256) (hcap : 256 ≤ cap) :
  SCall Γ 92 #[(.int .i64 (x : Int)),(.int .i64 (y : Int)),vr,(.func (.func 93) #[] #[.pointer (some ⟨g,0,none⟩),.pointer (some ⟨o,0,none⟩)])] (heapD g o r cap junk st L) (fun v L'=>v = .tuple #[] ∧ L' = heapD g o r cap junk (eachK rows x y st rows.length) L) := by
 obtain ⟨A,ca,rfl,hca',hA⟩ := hr
 refine SCall.enter (n := 37) (res0) (hP ▸ Tryz.func92) rfl rfl (by simp) (res0_ok rfl) ?_
 refine SX.seq_k fun K1 hK1=>?_
 refine SX.region ?_
 simp only [go_sem,Φc,Φa,Φb,hP]
 refine hK1 _ _ ?_
 try clear hK1 K1
 refine SX.block ?_
 refine SX.live [0,1,3,11,12,13] (fun T1 hT1=>?_)
 simp only [go_sem,Φc,Φa,Φb,forall_mem_cons',forall_mem_nil',hP] at hT1
 obtain ⟨h1_0,h1_1,h1_3,h1_11,h1_12,h1_13⟩ := hT1
 refine SX.loop_k (fun (ss : (Nat)) T L'=>(fun (k : Nat)=>T 13 = .int .i64 (k : Int) ∧ T 0 = T1 0 ∧ T 1 = T1 1 ∧ T 3 = T1 3 ∧ T 11 = T1 11 ∧ T 12 = T1 12 ∧ L' = heapD g o r cap junk (eachK rows x y st k) L ∧ (k ≤ rows.length)) (ss)) (fun (ss : (Nat))=>(fun (k : Nat)=>rows.length - k) (ss)) 0 ?_ ?_
 ·try dsimp only
  refine ⟨?_,?_,?_,?_,?_,?_,?_,?_⟩
  ·first | exact h1_13 | (rw [h1_13]; rfl) | (rw [h1_13]; simp; done)
  ·rfl
  ·rfl
  ·rfl
  ·rfl
  ·rfl
  ·rfl
  exact Nat.zero_le _
 intro k T2 L2 hI K2 hK2
 dsimp only at hI hK2
 simp only [h1_0,h1_1,h1_3,h1_11,h1_12] at hI hK2
 obtain ⟨h2_13,h2_0,h2_1,h2_3,h2_11,h2_12,hL2,hk⟩ := hI
 replace hL2 := hL2.symm
 subst hL2
 clear h1_0 h1_1 h1_3 h1_11 h1_12 h1_13 T1
 refine SX.seq_k fun K3 hK3=>?_
 refine SX.region ?_
 simp only [go_sem,Φc,Φa,Φb,hP,h2_13,h2_0,h2_1,h2_3,h2_11,h2_12]
 refine hK3 _ _ ?_
 try clear hK3 K3
 refine SX.seq_k fun K4 hK4=>?_
 refine SX.cond_k fun X5 Y5 hX5 hY5=>?_
 simp only [go_sem,Φc,Φa,Φb,hP,h2_13,h2_0,h2_1,h2_3,h2_11,h2_12,condVC]
 refine ⟨fun hc14=>hX5 ?_,fun hc14=>hY5 ?_⟩
 ·clear hX5 hY5 X5 Y5
  refine SX.skip ?_
  simp only [andThen_normal,andThen_ret,andThen_exit,inBlk_normal,inBlk_ret,inBlk_exit,Nat.reduceEqDiff,if_true,if_false,reduceIte]
  refine hK4 _ _ ?_
  try clear hK4 K4
  refine SX.seq_k fun K6 hK6=>?_
  refine SX.block ?_
  refine SX.seq_k fun K7 hK7=>?_
  have hx : rows[k]? = some (rows.getD k 0) := by simp [List.getD_eq_getElem?_getD,List.getElem?_eq_getElem (show k < rows.length by omega)]
  obtain ⟨a,ha,hca⟩ := hA k _ hx
  simp only [Nat.mul_one] at hca
  refine SX.region ?_
  simp only [go_sem,Φc,Φa,Φb,hP,h2_13,h2_0,h2_1,h2_3,h2_11,h2_12]
  refine ⟨⟨by omega,by omega⟩,a,ha,_,Cell.cons _ (Cell.cons _ (Cell.cons _ hca)),?_⟩
  try simp only [go_sem,Φc,Φa,Φb,hP,h2_13,h2_0,h2_1,h2_3,h2_11,h2_12]
  refine hK7 _ _ ?_
  try clear hK7 K7
  refine SX.seq_k fun K8 hK8=>?_
  refine SX.region ?_
  simp only [go_sem,Φc,Φa,Φb,hP,h2_13,h2_0,h2_1,h2_3,h2_11,h2_12]
  refine hK8 _ _ ?_
  try clear hK8 K8
  refine SX.block ?_
  refine SX.live [0,1,3,8,9,11,12,13,18] (fun T3 hT3=>?_)
  simp only [go_sem,Φc,Φa,Φb,forall_mem_cons',forall_mem_nil',hP,h2_13,h2_0,h2_1,h2_3,h2_11,h2_12] at hT3
  obtain ⟨h3_0,h3_1,h3_3,h3_8,h3_9,h3_11,h3_12,h3_13,h3_18⟩ := hT3
  clear h2_13 h2_0 h2_1 h2_3 h2_11 h2_12 T2
  refine SX.loop_k (fun (ss : (Nat)) T L'=>(fun (i : Nat)=>T 18 = .int .i64 (i : Int) ∧ T 0 = T3 0 ∧ T 1 = T3 1 ∧ T 3 = T3 3 ∧ T 8 = T3 8 ∧ T 9 = T3 9 ∧ T 11 = T3 11 ∧ T 12 = T3 12 ∧ T 13 = T3 13 ∧ L' = heapD g o r cap junk (eachI (rows.getD k 0) x (y + k) (eachK rows x y st k) i) L ∧ (i ≤ 8)) (ss)) (fun (ss : (Nat))=>(fun (i : Nat)=>8 - i) (ss)) 0 ?_ ?_
  ·try dsimp only
   refine ⟨?_,?_,?_,?_,?_,?_,?_,?_,?_,?_,?_⟩
   ·first | exact h3_18 | (rw [h3_18]; rfl) | (rw [h3_18]; simp; done)
   ·rfl
   ·rfl
   ·rfl
   ·rfl
   ·rfl
   ·rfl
   ·rfl
   ·rfl
   ·rfl
   exact Nat.zero_le _
  intro i T4 L4 hI K9 hK9
  dsimp only at hI hK9
  simp only [h3_0,h3_1,h3_3,h3_8,h3_9,h3_11,h3_12,h3_13] at hI hK9
  obtain ⟨h4_18,h4_0,h4_1,h4_3,h4_8,h4_9,h4_11,h4_12,h4_13,hL4,hi⟩ := hI
  replace hL4 := hL4.symm
  subst hL4
  clear h3_0 h3_1 h3_3 h3_8 h3_9 h3_11 h3_12 h3_13 h3_18 T3
  refine SX.seq_k fun K10 hK10=>?_
  refine SX.region ?_
  simp only [go_sem,Φc,Φa,Φb,hP,h4_18,h4_0,h4_1,h4_3,h4_8,h4_9,h4_11,h4_12,h4_13]
  refine hK10 _ _ ?_
  try clear hK10 K10
  refine SX.seq_k fun K11 hK11=>?_
  refine SX.cond_k fun X12 Y12 hX12 hY12=>?_
  simp only [go_sem,Φc,Φa,Φb,hP,h4_18,h4_0,h4_1,h4_3,h4_8,h4_9,h4_11,h4_12,h4_13,condVC]
  refine ⟨fun hc19=>hX12 ?_,fun hc19=>hY12 ?_⟩
  ·clear hX12 hY12 X12 Y12
   refine SX.skip ?_
   simp only [andThen_normal,andThen_ret,andThen_exit,inBlk_normal,inBlk_ret,inBlk_exit,Nat.reduceEqDiff,if_true,if_false,reduceIte]
   refine hK11 _ _ ?_
   try clear hK11 K11
   refine SX.live [0,1,3,8,9,11,12,13,18] (fun T5 hT5=>?_)
   simp only [go_sem,Φc,Φa,Φb,forall_mem_cons',forall_mem_nil',hP,h4_18,h4_0,h4_1,h4_3,h4_8,h4_9,h4_11,h4_12,h4_13] at hT5
   obtain ⟨h5_0,h5_1,h5_3,h5_8,h5_9,h5_11,h5_12,h5_13,h5_18⟩ := hT5
   clear h4_18 h4_0 h4_1 h4_3 h4_8 h4_9 h4_11 h4_12 h4_13 T4
   refine SX.join (fun (ss : Unit) T L'=>T 0 = T5 0 ∧ T 1 = T5 1 ∧ T 3 = T5 3 ∧ T 8 = T5 8 ∧ T 9 = T5 9 ∧ T 11 = T5 11 ∧ T 12 = T5 12 ∧ T 13 = T5 13 ∧ T 18 = T5 18 ∧ L' = heapD g o r cap junk (eachI (rows.getD k 0) x (y + k) (eachK rows x y st k) (i + 1)) L ∧ (True)) (fun K13 hK13=>?_) ?_
   ·simp only [h5_0,h5_1,h5_3,h5_8,h5_9,h5_11,h5_12,h5_13,h5_18] at hK13
    refine SX.block ?_
    refine SX.seq_k fun K14 hK14=>?_
    refine SX.region ?_
    simp only [go_sem,Φc,Φa,Φb,hP,h5_0,h5_1,h5_3,h5_8,h5_9,h5_11,h5_12,h5_13,h5_18]
    refine hK14 _ _ ?_
    try clear hK14 K14
    refine SX.seq_k fun K15 hK15=>?_
    have hw : IntKind.i64.wrap (7 - (i : Int)) = 7 - i := w64 (by omega)
    refine SX.region ?_
    simp only [go_sem,Φc,Φa,Φb,hP,h5_0,h5_1,h5_3,h5_8,h5_9,h5_11,h5_12,h5_13,h5_18,hw]
    refine ⟨by omega,?_⟩
    refine hK15 _ _ ?_
    try clear hK15 K15
    refine SX.cond_k fun X16 Y16 hX16 hY16=>?_
    simp only [go_sem,Φc,Φa,Φb,hP,h5_0,h5_1,h5_3,h5_8,h5_9,h5_11,h5_12,h5_13,h5_18,condVC]
    refine ⟨fun hc26=>hX16 ?_,fun hc26=>hY16 ?_⟩
    ·clear hX16 hY16 X16 Y16
     have q1 : IntKind.i64.wrap ((x : Int) + (i : Int)) = ((x + i : Nat) : Int) := by rw [w64 (by omega)]; rfl
     have q2 : IntKind.i64.wrap ((y : Int) + (k : Int)) = ((y + k : Nat) : Int) := by rw [w64 (by omega)]; rfl
     have hd : dotB (rows.getD k 0) i = true := by unfold dotB; exact decide_eq_true hc26
     refine SX.region ?_
     simp only [go_sem,Φc,Φa,Φb,hP,h5_0,h5_1,h5_3,h5_8,h5_9,h5_11,h5_12,h5_13,h5_18,q1,q2]
     refine SCall.mono (putDot_spec hP (by omega) (by omega) (by rw [eachI_length,eachK_length]; exact hlen) hcap) ?_
     rintro v_ L_ ⟨hv_,hL_⟩
     rw [hv_,hL_]
     clear hv_ hL_ v_ L_
     refine hK13 () _ (_) _ (by first | exact Less.refl _ | exact Less.drop _ _ | exact Less.drops (Less.drop _ _) | exact Less.drops (Less.drops (Less.drop _ _)) | exact Less.drops (Less.drops (Less.drops (Less.drop _ _))) | exact Less.drops (Less.drops (Less.drops (Less.drops (Less.drop _ _))))) ?_
     try dsimp only
     refine ⟨?_,?_,?_,?_,?_,?_,?_,?_,?_,?_,?_⟩
     ·simp only [go_sem,Φc,Φa,Φb,hP,h5_0,h5_1,h5_3,h5_8,h5_9,h5_11,h5_12,h5_13,h5_18]
     ·simp only [go_sem,Φc,Φa,Φb,hP,h5_0,h5_1,h5_3,h5_8,h5_9,h5_11,h5_12,h5_13,h5_18]
     ·simp only [go_sem,Φc,Φa,Φb,hP,h5_0,h5_1,h5_3,h5_8,h5_9,h5_11,h5_12,h5_13,h5_18]
     ·simp only [go_sem,Φc,Φa,Φb,hP,h5_0,h5_1,h5_3,h5_8,h5_9,h5_11,h5_12,h5_13,h5_18]
     ·simp only [go_sem,Φc,Φa,Φb,hP,h5_0,h5_1,h5_3,h5_8,h5_9,h5_11,h5_12,h5_13,h5_18]
     ·simp only [go_sem,Φc,Φa,Φb,hP,h5_0,h5_1,h5_3,h5_8,h5_9,h5_11,h5_12,h5_13,h5_18]
     ·simp only [go_sem,Φc,Φa,Φb,hP,h5_0,h5_1,h5_3,h5_8,h5_9,h5_11,h5_12,h5_13,h5_18]
     ·simp only [go_sem,Φc,Φa,Φb,hP,h5_0,h5_1,h5_3,h5_8,h5_9,h5_11,h5_12,h5_13,h5_18]
     ·simp only [go_sem,Φc,Φa,Φb,hP,h5_0,h5_1,h5_3,h5_8,h5_9,h5_11,h5_12,h5_13,h5_18]
     ·rw [eachI,if_pos hd]
     trivial
    clear hX16 hY16 X16 Y16
    refine SX.skip ?_
    simp only [andThen_normal,andThen_ret,andThen_exit,inBlk_normal,inBlk_ret,inBlk_exit,Nat.reduceEqDiff,if_true,if_false,reduceIte]
    refine hK13 () _ (_) _ (by first | exact Less.refl _ | exact Less.drop _ _ | exact Less.drops (Less.drop _ _) | exact Less.drops (Less.drops (Less.drop _ _)) | exact Less.drops (Less.drops (Less.drops (Less.drop _ _))) | exact Less.drops (Less.drops (Less.drops (Less.drops (Less.drop _ _))))) ?_
    try dsimp only
    refine ⟨?_,?_,?_,?_,?_,?_,?_,?_,?_,?_,?_⟩
    ·simp only [go_sem,Φc,Φa,Φb,hP,h5_0,h5_1,h5_3,h5_8,h5_9,h5_11,h5_12,h5_13,h5_18]
    ·simp only [go_sem,Φc,Φa,Φb,hP,h5_0,h5_1,h5_3,h5_8,h5_9,h5_11,h5_12,h5_13,h5_18]
    ·simp only [go_sem,Φc,Φa,Φb,hP,h5_0,h5_1,h5_3,h5_8,h5_9,h5_11,h5_12,h5_13,h5_18]
    ·simp only [go_sem,Φc,Φa,Φb,hP,h5_0,h5_1,h5_3,h5_8,h5_9,h5_11,h5_12,h5_13,h5_18]
    ·simp only [go_sem,Φc,Φa,Φb,hP,h5_0,h5_1,h5_3,h5_8,h5_9,h5_11,h5_12,h5_13,h5_18]
    ·simp only [go_sem,Φc,Φa,Φb,hP,h5_0,h5_1,h5_3,h5_8,h5_9,h5_11,h5_12,h5_13,h5_18]
    ·simp only [go_sem,Φc,Φa,Φb,hP,h5_0,h5_1,h5_3,h5_8,h5_9,h5_11,h5_12,h5_13,h5_18]
    ·simp only [go_sem,Φc,Φa,Φb,hP,h5_0,h5_1,h5_3,h5_8,h5_9,h5_11,h5_12,h5_13,h5_18]
    ·simp only [go_sem,Φc,Φa,Φb,hP,h5_0,h5_1,h5_3,h5_8,h5_9,h5_11,h5_12,h5_13,h5_18]
    ·rw [eachI,if_neg (by unfold dotB; simpa using hc26)]
    trivial
   intro ss T6 L6 hI
   simp only [h5_0,h5_1,h5_3,h5_8,h5_9,h5_11,h5_12,h5_13,h5_18] at hI 
   obtain ⟨h6_0,h6_1,h6_3,h6_8,h6_9,h6_11,h6_12,h6_13,h6_18,hL6,hinv⟩ := hI
   replace hL6 := hL6.symm
   subst hL6
   clear h5_0 h5_1 h5_3 h5_8 h5_9 h5_11 h5_12 h5_13 h5_18 T5
   refine SX.region ?_
   simp only [go_sem,Φc,Φa,Φb,hP,h6_0,h6_1,h6_3,h6_8,h6_9,h6_11,h6_12,h6_13,h6_18]
   refine hK9 (i + 1) _ (heapD g o r cap junk (eachI (rows.getD k 0) x (y + k) (eachK rows x y st k) ((i + 1))) L) _ (by first | exact Less.refl _ | exact Less.drop _ _ | exact Less.drops (Less.drop _ _) | exact Less.drops (Less.drops (Less.drop _ _)) | exact Less.drops (Less.drops (Less.drops (Less.drop _ _))) | exact Less.drops (Less.drops (Less.drops (Less.drops (Less.drop _ _))))) ?_ ?_
   ·try dsimp only
    refine ⟨?_,?_,?_,?_,?_,?_,?_,?_,?_,?_,?_⟩
    ·simp only [go_sem,Φc,Φa,Φb,hP,h6_0,h6_1,h6_3,h6_8,h6_9,h6_11,h6_12,h6_13,h6_18]
     rw [inc64 (by omega)]
    ·simp only [go_sem,Φc,Φa,Φb,hP,h6_0,h6_1,h6_3,h6_8,h6_9,h6_11,h6_12,h6_13,h6_18]
    ·simp only [go_sem,Φc,Φa,Φb,hP,h6_0,h6_1,h6_3,h6_8,h6_9,h6_11,h6_12,h6_13,h6_18]
    ·simp only [go_sem,Φc,Φa,Φb,hP,h6_0,h6_1,h6_3,h6_8,h6_9,h6_11,h6_12,h6_13,h6_18]
    ·simp only [go_sem,Φc,Φa,Φb,hP,h6_0,h6_1,h6_3,h6_8,h6_9,h6_11,h6_12,h6_13,h6_18]
    ·simp only [go_sem,Φc,Φa,Φb,hP,h6_0,h6_1,h6_3,h6_8,h6_9,h6_11,h6_12,h6_13,h6_18]
    ·simp only [go_sem,Φc,Φa,Φb,hP,h6_0,h6_1,h6_3,h6_8,h6_9,h6_11,h6_12,h6_13,h6_18]
    ·simp only [go_sem,Φc,Φa,Φb,hP,h6_0,h6_1,h6_3,h6_8,h6_9,h6_11,h6_12,h6_13,h6_18]
    ·simp only [go_sem,Φc,Φa,Φb,hP,h6_0,h6_1,h6_3,h6_8,h6_9,h6_11,h6_12,h6_13,h6_18]
    ·rfl
    omega
   (try dsimp only); omega
  clear hX12 hY12 X12 Y12
  refine SX.exit ?_
  simp only [andThen_normal,andThen_ret,andThen_exit,inBlk_normal,inBlk_ret,inBlk_exit,Nat.reduceEqDiff,if_true,if_false,reduceIte]
  refine hK6 _ _ ?_
  try clear hK6 K6
  obtain rfl : i = 8 := by omega
  refine SX.region ?_
  simp only [go_sem,Φc,Φa,Φb,hP,h4_18,h4_0,h4_1,h4_3,h4_8,h4_9,h4_11,h4_12,h4_13]
  refine hK2 (k + 1) _ (heapD g o r cap junk (eachK rows x y st ((k + 1))) L) _ (by first | exact Less.refl _ | exact Less.drop _ _ | exact Less.drops (Less.drop _ _) | exact Less.drops (Less.drops (Less.drop _ _)) | exact Less.drops (Less.drops (Less.drops (Less.drop _ _))) | exact Less.drops (Less.drops (Less.drops (Less.drops (Less.drop _ _))))) ?_ ?_
  ·try dsimp only
   refine ⟨?_,?_,?_,?_,?_,?_,?_,?_⟩
   ·simp only [go_sem,Φc,Φa,Φb,hP,h4_18,h4_0,h4_1,h4_3,h4_8,h4_9,h4_11,h4_12,h4_13]
    rw [inc64 (by omega)]
   ·simp only [go_sem,Φc,Φa,Φb,hP,h4_18,h4_0,h4_1,h4_3,h4_8,h4_9,h4_11,h4_12,h4_13]
   ·simp only [go_sem,Φc,Φa,Φb,hP,h4_18,h4_0,h4_1,h4_3,h4_8,h4_9,h4_11,h4_12,h4_13]
   ·simp only [go_sem,Φc,Φa,Φb,hP,h4_18,h4_0,h4_1,h4_3,h4_8,h4_9,h4_11,h4_12,h4_13]
   ·simp only [go_sem,Φc,Φa,Φb,hP,h4_18,h4_0,h4_1,h4_3,h4_8,h4_9,h4_11,h4_12,h4_13]
   ·simp only [go_sem,Φc,Φa,Φb,hP,h4_18,h4_0,h4_1,h4_3,h4_8,h4_9,h4_11,h4_12,h4_13]
   ·rfl
   omega
  (try dsimp only); omega
 clear hX5 hY5 X5 Y5
 refine SX.exit ?_
 simp only [andThen_normal,andThen_ret,andThen_exit,inBlk_normal,inBlk_ret,inBlk_exit,Nat.reduceEqDiff,if_true,if_false,reduceIte]
 simp only [andThen_normal,andThen_ret,andThen_exit,inBlk_normal,inBlk_ret,inBlk_exit,Nat.reduceEqDiff,if_true,if_false,reduceIte,retQ_normal]
 try simp only [go_sem,Φc,Φa,Φb,res0,res1,res2,res3,hP,h2_13,h2_0,h2_1,h2_3,h2_11,h2_12]
 obtain rfl : k = rows.length := by omega
 exact ⟨_,_,Less.refl _,rfl,rfl,rfl⟩

def drawn (page : List Int) (x y : Nat) (rows : List Int) : Bool × List Int := eachK rows (x % 64) (y % 32) (false,page) rows.length
def drawR (page : List Int) (x y : Nat) (rows : List Int) (L : Hp) (v : Value) (L' : Hp) : Prop :=
 if page.length = 256 ∧ rows.length ≤ 15 then ∃ r cap junk,(256 ≤ cap ∧ cap ≤ 9223372036854775807) ∧ 256 + junk.length = cap ∧ v = .tuple #[.slice (some ⟨r,0,none⟩) 256 cap,.bool (drawn page x y rows).1,.int .i64 0] ∧ L' = some (r,.cells (ints .u8 (drawn page x y rows).2 ++ junk).toArray 5 (0,0)) :: L
 else v = .tuple #[.slice none 0 0,.bool false,.int .i64 1] ∧ L' = L
theorem Draw_spec {Γ : Ctx} (hP : Γ.P = Tryz.prog) {L : Hp} {x y : Nat} {page rows : List Int} {va vr : Value} (hx : x < 256) (hy : y < 256) (ha : SlI .u8 (Cell Γ L) va page) (hb : SlI .u8 (Cell Γ L) vr rows) (hrl : rows.length ≤ 9223372036854775807) :
  SCall Γ 79 #[va,(.int .u8 (x : Int)),(.int .u8 (y : Int)),vr] L (drawR page x y rows L) := by
 have ha0 := ha
 have hb0 := hb
 obtain ⟨A,ca,rfl,hca',hA⟩ := ha
 obtain ⟨B,cb,rfl,hcb',hB⟩ := hb
 refine SCall.enter (n := 34) (res3 8 9 10) (hP ▸ Tryz.func79) rfl rfl (by simp) (res3_ok rfl) ?_
 refine SX.seq_k fun K1 hK1=>?_
 refine SX.region ?_
 simp only [go_sem,Φc,Φa,Φb,hP]
 refine hK1 _ _ ?_
 try clear hK1 K1
 refine SX.seq_k fun K2 hK2=>?_
 refine SX.seq_k fun K3 hK3=>?_
 refine SX.region_x ?_
 refine RX.live [0,1,2,3] (fun T1 hT1=>?_)
 simp only [go_sem,Φc,Φa,Φb,forall_mem_cons',forall_mem_nil',hP] at hT1
 obtain ⟨h1_0,h1_1,h1_2,h1_3⟩ := hT1
 refine RX.join 8 (fun (ss : Unit) T L'=>T 20 = .bool (decide (¬ page.length = 256 ∨ 15 < rows.length)) ∧ T 0 = T1 0 ∧ T 1 = T1 1 ∧ T 2 = T1 2 ∧ T 3 = T1 3 ∧ L' = L ∧ (True)) (fun K4 hK4=>?_) ?_
 ·simp only [h1_0,h1_1,h1_2,h1_3] at hK4
  simp only [go_sem,Φc,Φa,Φb,hP,h1_0,h1_1,h1_2,h1_3]
  refine iteI (fun hg=>?_) (fun hg=>?_)
  ·skip
   refine hK4 () _ (L) _ (by first | exact Less.refl _ | exact Less.drop _ _ | exact Less.drops (Less.drop _ _) | exact Less.drops (Less.drops (Less.drop _ _)) | exact Less.drops (Less.drops (Less.drops (Less.drop _ _))) | exact Less.drops (Less.drops (Less.drops (Less.drops (Less.drop _ _))))) ?_
   try dsimp only
   refine ⟨?_,?_,?_,?_,?_,?_,?_⟩
   ·simp only [go_sem,Φc,Φa,Φb,hP,h1_0,h1_1,h1_2,h1_3]
    first | exact congrArg _ (decide_eq_decide.2 (by omega)) | exact congrArg _ (decide_eq_true (by omega)).symm | exact congrArg _ (decide_eq_false (by omega)).symm
   ·simp only [go_sem,Φc,Φa,Φb,hP,h1_0,h1_1,h1_2,h1_3]
   ·simp only [go_sem,Φc,Φa,Φb,hP,h1_0,h1_1,h1_2,h1_3]
   ·simp only [go_sem,Φc,Φa,Φb,hP,h1_0,h1_1,h1_2,h1_3]
   ·simp only [go_sem,Φc,Φa,Φb,hP,h1_0,h1_1,h1_2,h1_3]
   ·rfl
   trivial
  skip
  refine hK4 () _ (L) _ (by first | exact Less.refl _ | exact Less.drop _ _ | exact Less.drops (Less.drop _ _) | exact Less.drops (Less.drops (Less.drop _ _)) | exact Less.drops (Less.drops (Less.drops (Less.drop _ _))) | exact Less.drops (Less.drops (Less.drops (Less.drops (Less.drop _ _))))) ?_
  try dsimp only
  refine ⟨?_,?_,?_,?_,?_,?_,?_⟩
  ·simp only [go_sem,Φc,Φa,Φb,hP,h1_0,h1_1,h1_2,h1_3]
   first | exact congrArg _ (decide_eq_decide.2 (by omega)) | exact congrArg _ (decide_eq_true (by omega)).symm | exact congrArg _ (decide_eq_false (by omega)).symm
  ·simp only [go_sem,Φc,Φa,Φb,hP,h1_0,h1_1,h1_2,h1_3]
  ·simp only [go_sem,Φc,Φa,Φb,hP,h1_0,h1_1,h1_2,h1_3]
  ·simp only [go_sem,Φc,Φa,Φb,hP,h1_0,h1_1,h1_2,h1_3]
  ·simp only [go_sem,Φc,Φa,Φb,hP,h1_0,h1_1,h1_2,h1_3]
  ·rfl
  trivial
 intro ss T2 L2 hI
 simp only [h1_0,h1_1,h1_2,h1_3] at hI 
 obtain ⟨h2_20,h2_0,h2_1,h2_2,h2_3,hL2,hinv⟩ := hI
 replace hL2 := hL2.symm
 subst hL2
 clear h1_0 h1_1 h1_2 h1_3 T1
 refine RX.done ?_
 simp only [go_sem,Φc,Φa,Φb,hP,h2_20,h2_0,h2_1,h2_2,h2_3]
 refine hK3 _ _ ?_
 try clear hK3 K3
 refine SX.cond_k fun X5 Y5 hX5 hY5=>?_
 simp only [go_sem,Φc,Φa,Φb,hP,h2_20,h2_0,h2_1,h2_2,h2_3,condVC]
 refine ⟨fun hc20=>hX5 ?_,fun hc20=>hY5 ?_⟩
 ·clear hX5 hY5 X5 Y5
  refine SX.seq_k fun K6 hK6=>?_
  refine SX.region ?_
  simp only [go_sem,Φc,Φa,Φb,hP,h2_20,h2_0,h2_1,h2_2,h2_3]
  refine hK6 _ _ ?_
  try clear hK6 K6
  refine SX.ret ?_
  simp only [andThen_normal,andThen_ret,andThen_exit,inBlk_normal,inBlk_ret,inBlk_exit,Nat.reduceEqDiff,if_true,if_false,reduceIte,retQ_ret]
  try simp only [go_sem,Φc,Φa,Φb,res0,res1,res2,res3,hP,h2_20,h2_0,h2_1,h2_2,h2_3]
  exact ⟨_,L,(by first | exact Less.refl _ | exact Less.drop _ _ | exact Less.drops (Less.drop _ _) | exact Less.drops (Less.drops (Less.drop _ _)) | exact Less.drops (Less.drops (Less.drops (Less.drop _ _))) | exact Less.drops (Less.drops (Less.drops (Less.drops (Less.drop _ _))))),rfl,by rw [drawR,if_neg (by omega)]; exact ⟨rfl,rfl⟩⟩
 clear hX5 hY5 X5 Y5
 refine SX.skip ?_
 simp only [andThen_normal,andThen_ret,andThen_exit,inBlk_normal,inBlk_ret,inBlk_exit,Nat.reduceEqDiff,if_true,if_false,reduceIte]
 refine hK2 _ _ ?_
 try clear hK2 K2
 refine SX.seq_k fun K7 hK7=>?_
 refine SX.less (Less.none _) ?_
 have hpl : page.length = 256 := by omega
 refine SX.region ?_
 simp only [go_sem,Φc,Φa,Φb,hP,h2_20,h2_0,h2_1,h2_2,h2_3]
 refine YAppend.ints (i := 0) (hP ▸ T.elS_25) (hP ▸ T.zr_5) rfl rfl (RowI.nil .u8 5) (SlI.cons none ha0) (by simp; omega) (by decide) (fun v_ s_ hr_=>?_)
 rw [List.nil_append] at hr_
 obtain ⟨r,cap,junk,rfl,rfl,hcap,hjl0⟩ := RowI.form2 hr_ (by omega)
 rw [hpl]
 try simp only [go_sem,Φc,Φa,Φb,hP,h2_20,h2_0,h2_1,h2_2,h2_3]
 intro o
 refine ⟨0,_,_,_,rfl,by decide,.inr (Nat.zero_le _),?_⟩
 try simp only [go_sem,Φc,Φa,Φb,hP,h2_20,h2_0,h2_1,h2_2,h2_3]
 refine hK7 _ _ ?_
 try clear hK7 K7
 refine SX.seq_k fun K8 hK8=>?_
 refine SX.region ?_
 simp only [go_sem,Φc,Φa,Φb,hP,h2_20,h2_0,h2_1,h2_2,h2_3]
 intro g
 refine ⟨0,_,_,_,rfl,by decide,.inr (Nat.zero_le _),?_⟩
 try simp only [go_sem,Φc,Φa,Φb,hP,h2_20,h2_0,h2_1,h2_2,h2_3]
 refine hK8 _ _ ?_
 try clear hK8 K8
 refine SX.seq_k fun K9 hK9=>?_
 have q1 : IntKind.i64.wrap (x : Int) = (x : Int) := w64 (by omega)
 have q2 : IntKind.i64.wrap (y : Int) = (y : Int) := w64 (by omega)
 have q3 : (x : Int).tmod 64 = ((x % 64 : Nat) : Int) := rfl
 have q4 : (y : Int).tmod 32 = ((y % 32 : Nat) : Int) := rfl
 refine SX.region ?_
 simp only [go_sem,Φc,Φa,Φb,hP,h2_20,h2_0,h2_1,h2_2,h2_3,q1,q2,q3,q4]
 refine SCall.mono (each_spec (g := g) (o := o) (r := r) (cap := cap) (junk := junk) (x := x % 64) (y := y % 32) (st := (false,page)) hP (by omega) (by omega) hb0 (by omega) hpl (by omega)) ?_
 rintro v_ L_ ⟨hv_,hL_⟩
 rw [hv_,hL_]
 clear hv_ hL_ v_ L_
 refine hK9 _ _ ?_
 try clear hK9 K9
 refine SX.live [11,12] (fun T3 hT3=>?_)
 simp only [go_sem,Φc,Φa,Φb,forall_mem_cons',forall_mem_nil',hP,h2_20,h2_0,h2_1,h2_2,h2_3] at hT3
 obtain ⟨h3_11,h3_12⟩ := hT3
 clear h2_20 h2_0 h2_1 h2_2 h2_3 T2
 refine SX.seq_k fun K10 hK10=>?_
 refine SX.quiet (hP ▸ T.mixed) (by kernel_rfl) ?_
 simp only [go_sem,Φc,Φa,Φb,hP,h3_11,h3_12]
 refine ⟨_,Cell.at 1 rfl rfl,_,Cell.at 0 rfl rfl,?_⟩
 refine hK10 _ _ ?_
 try clear hK10 K10
 refine SX.ret ?_
 simp only [andThen_normal,andThen_ret,andThen_exit,inBlk_normal,inBlk_ret,inBlk_exit,Nat.reduceEqDiff,if_true,if_false,reduceIte,retQ_ret]
 try simp only [go_sem,Φc,Φa,Φb,res0,res1,res2,res3,hP,h3_11,h3_12]
 refine ⟨_,some (r,.cells (ints .u8 (drawn page x y rows).2 ++ junk).toArray 5 (0,0)) :: L,Less.drops (Less.drop _ _),rfl,?_⟩
 rw [drawR,if_pos (by omega)]
 exact ⟨r,cap,junk,by omega,by omega,rfl,rfl⟩


end Go.Proofs.YtgioegdjeodpiaaGreat
namespace Go.Proofs.YtgioegdjeodpiaaGreat
open Go.RowKit Go.SX

def spliceL (l : List Int) (i : Nat) (bs : List Int) : List Int := l.take i ++ bs ++ l.drop (i + bs.length)
theorem spliceL_length {l bs : List Int} {i : Nat} (h : i + bs.length ≤ l.length) : (spliceL l i bs).length = l.length := by simp [spliceL]; omega
theorem spliceL_byte {l bs : List Int} {i : Nat} (hl : Byte l) (hb : Byte bs) : Byte (spliceL l i bs) := fun x hx=>by
 rcases List.mem_append.1 hx with h | h
 ·rcases List.mem_append.1 h with h | h
  ·exact hl x (List.mem_of_mem_take h)
  exact hb x h
 exact hl x (List.mem_of_mem_drop h)
theorem setN_splice {k : IntKind} {l bs : List Int} {i : Nat} {junk : List Value} (h : i + bs.length ≤ l.length) : setN (ints k l ++ junk) i (ints k bs) = ints k (spliceL l i bs) ++ junk := by
 have e : ints k l ++ junk = ints k (l.take i) ++ (ints k (l.drop i) ++ junk) := by rw [← List.append_assoc,← ints_app,List.take_append_drop]
 have hl : (ints k (l.take i)).length = i := by rw [ints_length,List.length_take]; omega
 have key := setN_app (ints k bs) (ints k (l.take i)) (ints k (l.drop i) ++ junk) (by simp [ints_length]; omega)
 rw [hl] at key
 rw [e,key,ints_length,List.drop_append_of_le_length (by simp [ints_length]; omega),spliceL,ints_app,ints_app,List.append_assoc,List.append_assoc,List.append_assoc]
 congr 3
 simp [ints]
def layG (g : GM) (bs : List Int) : Option GM := if 512 ≤ g.I ∧ g.I + (bs.length : Int) ≤ 3744 then some { g with mm := spliceL g.mm (g.I - 512).toNat bs } else none
theorem cutA_lt {b m l : Nat} (h : l < m) : cutA (some ⟨b,0,none⟩) 1 m l = some ⟨b,l,none⟩ := by
 unfold cutA
 rw [if_neg (by omega)]
 simp [Addr.add_lit]
def layR (gp : Nat) (sv pv mv : Value) (o : Ord) (f : Fnt) (fv : Value) (d : Feed) (q1 q2 : Slot) (H L : Hp) (r : Option GM) (v : Value) (L' : Hp) : Prop := match r with
 | some g'=>v = .bool true ∧ ∃ q3',L' = PS gp g' sv pv mv o f fv d :: q1 :: q2 :: q3' :: L ∧ RowI .u8 5 mv g'.mm q3'
 | none=>v = .bool false ∧ L' = H
set_option maxHeartbeats 1000000 in
set_option maxRecDepth 100000 in
theorem lay_spec {Γ : Ctx} (hP : Γ.P = Tryz.prog) {L : Hp} {gp : Nat} {g : GM} {sv pv mv : Value} {o : Ord} {f : Fnt} {fv : Value} {d : Feed} {q1 q2 q3 : Slot} {bs : List Int} {vb : Value} (hg : OkG g) (hb : SlI .u8 (Cell Γ (PS gp g sv pv mv o f fv d :: q1 :: q2 :: q3 :: L)) vb bs) (hbl : 1 ≤ bs.length) (hbm : bs.length ≤ 16) (hm : RowI .u8 5 mv g.mm q3) (hml : g.mm.length = 3232) :
  SCall Γ 81 #[(.pointer (some ⟨gp,0,none⟩)),vb] (PS gp g sv pv mv o f fv d :: q1 :: q2 :: q3 :: L) (layR gp sv pv mv o f fv d q1 q2 (PS gp g sv pv mv o f fv d :: q1 :: q2 :: q3 :: L) L (layG g bs)) := by
 obtain ⟨A,c,rfl,hc,hA⟩ := id hb
 have hIb := hg.I
 refine SCall.enter (n := 37) (res1 4) (hP ▸ Tryz.func81) rfl rfl (by simp) (res1_ok rfl) ?_
 refine SX.seq_k fun K1 hK1=>?_
 refine SX.region_d [some 4] rfl (fun ops hops=>?_)
 unfold Dsts at hops
 simp (dsimp:=false)(disch:=omega) only [go_sem,ia_someH,hP,hops]
 refine hK1 _ _ ?_
 try clear hK1 K1
 refine SX.seq_k fun K2 hK2=>?_
 refine SX.seq_k fun K3 hK3=>?_
 refine SX.region_d [some 6,some 7,some 8] rfl (fun ops hops=>?_)
 unfold Dsts at hops
 simp (dsimp:=false)(disch:=omega) only [go_sem,ia_someH,hP,hops]
 repeat' ((first | (refine SCall.mono (inside_spec hP) ?_; rintro v_ L_ ⟨hv_,hL_⟩; rw [hv_,hL_]; clear hv_ hL_ v_ L_) | refine ⟨_,inside_spec hP,?_⟩ | refine ⟨_,fun L0 hl0=>inside_spec hP,?_⟩ | refine And.intro (by omega) ?_ | fail); try refine stI ?_; try simp (dsimp:=false)(disch:=omega) only [go_sem,ia_someH,hP,hops])
 refine hK3 _ _ ?_
 try clear hK3 K3
 refine SX.block ?_
 refine SX.live [0,1,7,8] (fun T1 hT1=>?_)
 simp only [forall_mem_cons',forall_mem_nil',go_sem,ia_someH,hP] at hT1
 obtain ⟨h1_0,h1_1,h1_7,h1_8⟩ := hT1
 refine SX.loop_k (fun (ss : (Nat)) T L'=>(fun (k : Nat)=>T 8 = .int .i64 (k : Int) ∧ T 0 = T1 0 ∧ T 1 = T1 1 ∧ T 7 = T1 7 ∧ L' = PS gp g sv pv mv o f fv d :: q1 :: q2 :: q3 :: L ∧ (k ≤ bs.length ∧ ∀ j : Nat,j < k → 512 ≤ g.I + (j : Int) ∧ g.I + (j : Int) < 3744)) (ss)) (fun (ss : (Nat))=>(fun (k : Nat)=>bs.length - k) (ss)) 0 ?_ ?_
 ·try dsimp only
  refine ⟨?_,?_,?_,?_,?_,?_⟩
  ·first | exact h1_8 | (rw [h1_8]; rfl) | (rw [h1_8]; simp; done)
  ·rfl
  ·rfl
  ·rfl
  ·rfl
  exact ⟨Nat.zero_le _,fun j hj=>absurd hj (Nat.not_lt_zero _)⟩
 intro k T2 L2 hI K4 hK4
 try dsimp only at hI hK4
 simp only [h1_0,h1_1,h1_7] at hI hK4
 obtain ⟨h2_8,h2_0,h2_1,h2_7,hL2,⟨hk,hin⟩⟩ := hI
 replace hL2 := hL2.symm
 subst hL2
 clear h1_0 h1_1 h1_7 h1_8 T1
 refine SX.seq_k fun K5 hK5=>?_
 refine SX.region_d [some 9] rfl (fun ops hops=>?_)
 unfold Dsts at hops
 simp (dsimp:=false)(disch:=omega) only [go_sem,ia_someH,hP,h2_8,h2_0,h2_1,h2_7,hops]
 repeat' ((first | refine And.intro (by omega) ?_ | fail); try refine stI ?_; try simp (dsimp:=false)(disch:=omega) only [go_sem,ia_someH,hP,h2_8,h2_0,h2_1,h2_7,hops])
 refine hK5 _ _ ?_
 try clear hK5 K5
 refine SX.seq_k fun K6 hK6=>?_
 refine SX.cond_k fun X7 Y7 hX7 hY7=>?_
 simp (dsimp:=false)(disch:=omega) only [go_sem,ia_someH,hP,h2_8,h2_0,h2_1,h2_7,condVC]
 refine ⟨fun hc9=>hX7 ?_,fun hc9=>hY7 ?_⟩
 ·clear hX7 hY7 X7 Y7
  refine SX.skip ?_
  try simp only [andThen_normal,andThen_ret,andThen_exit,inBlk_normal,inBlk_ret,inBlk_exit,Nat.reduceEqDiff,if_true,if_false,↓reduceIte]
  refine hK6 _ _ ?_
  try clear hK6 K6
  refine SX.seq_k fun K8 hK8=>?_
  refine SX.block ?_
  refine SX.seq_k fun K9 hK9=>?_
  refine SX.region_d [some 10,some 5] rfl (fun ops hops=>?_)
  unfold Dsts at hops
  simp (dsimp:=false)(disch:=omega) only [go_sem,ia_someH,hP,h2_8,h2_0,h2_1,h2_7,hops]
  refine hK9 _ _ ?_
  try clear hK9 K9
  refine SX.seq_k fun K10 hK10=>?_
  refine SX.region_d [some 11,some 12,some 13,some 14,some 15,some 16,some 17,some 18,some 19,some 20] rfl (fun ops hops=>?_)
  unfold Dsts at hops
  simp (dsimp:=false)(disch:=omega) only [go_sem,ia_someH,hP,h2_8,h2_0,h2_1,h2_7,hops]
  refine ⟨_,Cell.at 0 rfl (show (pcells _ _ _ _ _ _ _ _)[16]? = _ from rfl),?_⟩
  try refine stI ?_
  try simp (dsimp:=false)(disch:=omega) only [go_sem,ia_someH,hP,h2_8,h2_0,h2_1,h2_7,hops]
  refine SCall.mono (inside_spec hP) ?_
  rintro v_ L_ ⟨hv_,hL_⟩
  rw [hv_,hL_]
  try refine stI ?_
  try simp (dsimp:=false)(disch:=omega) only [go_sem,ia_someH,hP,h2_8,h2_0,h2_1,h2_7,hops]
  refine hK10 _ _ ?_
  try clear hK10 K10
  refine SX.live [0,1,7,8,20] (fun T3 hT3=>?_)
  simp only [forall_mem_cons',forall_mem_nil',go_sem,ia_someH,hP,h2_8,h2_0,h2_1,h2_7] at hT3
  obtain ⟨h3_0,h3_1,h3_7,h3_8,h3_20⟩ := hT3
  clear h2_8 h2_0 h2_1 h2_7 T2
  refine SX.cond_k fun X11 Y11 hX11 hY11=>?_
  simp (dsimp:=false)(disch:=omega) only [go_sem,ia_someH,hP,h3_0,h3_1,h3_7,h3_8,h3_20,condVC]
  refine ⟨fun hc20=>hX11 ?_,fun hc20=>hY11 ?_⟩
  ·clear hX11 hY11 X11 Y11
   refine SX.seq_k fun K12 hK12=>?_
   refine SX.region_d [some 4] rfl (fun ops hops=>?_)
   unfold Dsts at hops
   simp (dsimp:=false)(disch:=omega) only [go_sem,ia_someH,hP,h3_0,h3_1,h3_7,h3_8,h3_20,hops]
   refine hK12 _ _ ?_
   try clear hK12 K12
   refine SX.ret ?_
   simp only [andThen_normal,andThen_ret,andThen_exit,inBlk_normal,inBlk_ret,inBlk_exit,Nat.reduceEqDiff,if_true,if_false,↓reduceIte,retQ_ret]
   try simp only [res0,res1,res2,res3,stK_e,go_sem,ia_someH,hP,h3_0,h3_1,h3_7,h3_8,h3_20]
   refine ⟨_,_,Less.refl _,rfl,?_⟩
   unfold layR layG
   rw [if_neg (fun h=>by have := hc20; omega)]
   exact ⟨rfl,rfl⟩
  clear hX11 hY11 X11 Y11
  refine SX.skip ?_
  try simp only [andThen_normal,andThen_ret,andThen_exit,inBlk_normal,inBlk_ret,inBlk_exit,Nat.reduceEqDiff,if_true,if_false,↓reduceIte]
  refine hK8 _ _ ?_
  try clear hK8 K8
  refine SX.region_d [some 21,some 8] rfl (fun ops hops=>?_)
  unfold Dsts at hops
  simp (dsimp:=false)(disch:=omega) only [go_sem,ia_someH,hP,h3_0,h3_1,h3_7,h3_8,h3_20,hops]
  repeat' ((first | refine And.intro (by omega) ?_ | fail); try refine stI ?_; try simp (dsimp:=false)(disch:=omega) only [go_sem,ia_someH,hP,h3_0,h3_1,h3_7,h3_8,h3_20,hops])
  refine hK4 (k + 1) _ (PS gp g sv pv mv o f fv d :: q1 :: q2 :: q3 :: L) _ (by first | exact Less.refl _ | exact Less.drop _ _ | exact Less.drops (Less.drop _ _) | exact Less.drops (Less.drops (Less.drop _ _)) | exact Less.drops (Less.drops (Less.drops (Less.drop _ _))) | exact Less.drops (Less.drops (Less.drops (Less.drops (Less.drop _ _))))) ?_ ?_
  ·try dsimp only
   refine ⟨?_,?_,?_,?_,?_,?_⟩
   ·simp (dsimp:=false)(disch:=omega) only [go_sem,ia_someH,hP,h3_0,h3_1,h3_7,h3_8,h3_20]
    rfl
   ·simp (dsimp:=false)(disch:=omega) only [go_sem,ia_someH,hP,h3_0,h3_1,h3_7,h3_8,h3_20]
   ·simp (dsimp:=false)(disch:=omega) only [go_sem,ia_someH,hP,h3_0,h3_1,h3_7,h3_8,h3_20]
   ·simp (dsimp:=false)(disch:=omega) only [go_sem,ia_someH,hP,h3_0,h3_1,h3_7,h3_8,h3_20]
   ·rfl
   refine ⟨by omega,fun j hj=>?_⟩
   rcases Nat.lt_succ_iff_lt_or_eq.1 hj with h | rfl
   ·exact hin j h
   first | exact hc20 | (simpa using hc20)
  (try dsimp only); omega
 clear hX7 hY7 X7 Y7
 refine SX.exit ?_
 try simp only [andThen_normal,andThen_ret,andThen_exit,inBlk_normal,inBlk_ret,inBlk_exit,Nat.reduceEqDiff,if_true,if_false,↓reduceIte]
 refine hK2 _ _ ?_
 try clear hK2 K2
 refine SX.seq_k fun K13 hK13=>?_
 obtain rfl : k = bs.length := by omega
 have h0 := hin 0 (by omega)
 have h9 := hin (bs.length - 1) (by omega)
 obtain ⟨hx,⟨_,hn,_⟩ | ⟨gm,cap,junk,rfl,rfl,hcap,hjl⟩⟩ := id hm
 ·omega
 have hof : (g.I - 512).toNat < cap := by omega
 have hmin : min bs.length (3232 - (g.I - 512).toNat) = bs.length := by omega
 have hsrc : ∀ j u,(SX.ints .u8 bs)[j]? = some u → ∃ a,A = some a ∧ Cell Γ (PS gp g sv pv (.slice (some ⟨gm,0,none⟩) g.mm.length cap) o f fv d :: q1 :: q2 :: some (gm,.cells (ints .u8 g.mm ++ junk).toArray 5 (0,0)) :: L) (a.add j) u := fun j u hj=>by
  rw [SX.ints_at] at hj
  obtain ⟨x,hx,rfl⟩ := Option.map_eq_some_iff.1 hj
  obtain ⟨a,ha,h⟩ := hA j x hx
  rw [Nat.mul_one] at h
  exact ⟨a,ha,h⟩
 rw [hml] at hsrc
 refine SX.drawn_d [(0,.q),(1,.q),(2,.q),(3,.q),(4,.q),(5,.q),(6,.q),(7,.q),(8,.q),(9,.q),(10,.q),(11,.q),(12,.q),(13,.q),(14,.t)] (fun L=>L) (hP ▸ T.mixed) (by kernel_rfl) (by exact Less.refl _) [some 22,some 23,some 24,some 25,some 26,some 27,some 28,some 29,some 30,some 31,some 32,some 33,some 34,some 35,some 36] rfl (fun ops hops hopl=>?_)
 unfold Dsts at hops
 simp (dsimp:=false)(disch:=omega) only [go_sem,ia_someH,hP,h2_8,h2_0,h2_1,h2_7,hops,hopl,cutA_lt hof,hml]
 refine ⟨_,Cell.at 0 rfl (show (pcells _ _ _ _ _ _ _ _)[22]? = _ from rfl),?_⟩
 try refine stI ?_
 try simp (dsimp:=false)(disch:=omega) only [go_sem,ia_someH,hP,h2_8,h2_0,h2_1,h2_7,hops,hopl,cutA_lt hof,hml]
 refine ⟨_,Cell.at 0 rfl (show (pcells _ _ _ _ _ _ _ _)[16]? = _ from rfl),?_⟩
 try refine stI ?_
 try simp (dsimp:=false)(disch:=omega) only [go_sem,ia_someH,hP,h2_8,h2_0,h2_1,h2_7,hops,hopl,cutA_lt hof,hml]
 refine And.intro (.inr (by omega)) ?_
 refine YCopy.cells (i := 3) (src := SX.ints .u8 bs) (sz := 1) (hP ▸ T.elS_25) (by rw [ints_length,Nat.mul_one]) hsrc (ints_oneB _ _) rfl (by rw [hmin]; simp [ints_length]; omega) (.inr (Nat.zero_le _)) ?_
 rw [hmin,Nat.mul_one,List.take_of_length_le (by rw [ints_length]; exact Nat.le_refl _),setN_splice (by omega)]
 try refine stI ?_
 try simp (dsimp:=false)(disch:=omega) only [go_sem,ia_someH,hP,h2_8,h2_0,h2_1,h2_7,hops,hopl,cutA_lt hof,hml]
 refine hK13 _ _ ?_
 try clear hK13 K13
 refine SX.live [] (fun T4 hT4=>?_)
 clear hT4
 clear h2_8 h2_0 h2_1 h2_7 T2
 refine SX.seq_k fun K14 hK14=>?_
 refine SX.region_d [some 4] rfl (fun ops hops=>?_)
 unfold Dsts at hops
 simp (dsimp:=false)(disch:=omega) only [go_sem,ia_someH,hP,hops]
 refine hK14 _ _ ?_
 try clear hK14 K14
 refine SX.ret ?_
 simp only [andThen_normal,andThen_ret,andThen_exit,inBlk_normal,inBlk_ret,inBlk_exit,Nat.reduceEqDiff,if_true,if_false,↓reduceIte,retQ_ret]
 try simp only [res0,res1,res2,res3,stK_e,go_sem,ia_someH,hP]
 refine ⟨_,_,Less.refl _,rfl,?_⟩
 unfold layR layG
 rw [if_pos ⟨by omega,by omega⟩]
 have hsl := spliceL_length (l := g.mm) (bs := bs) (i := (g.I - 512).toNat) (by omega)
 exact ⟨rfl,_,by rw [← hml]; rfl,by rw [ints_length]; omega,.inr ⟨gm,cap,junk,by rw [hsl,hml],rfl,by rw [hsl]; exact hcap,by simp only [List.length_append,ints_length,hsl] at hjl ⊢; exact hjl⟩⟩


end Go.Proofs.YtgioegdjeodpiaaGreat
