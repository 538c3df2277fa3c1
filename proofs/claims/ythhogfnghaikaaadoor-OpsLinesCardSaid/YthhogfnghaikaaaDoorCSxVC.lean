/- A part of the proof of OpsLinesCardSaid. -/
import Derived.Test.YthhogfnghaikaaaDoorCSxCore
set_option linter.unusedVariables false
set_option linter.unusedSimpArgs false
namespace Go.SX
open Go.RowKit

/-! ### what is asked of the table of types -/
def aggT (P : Program) (t : TypeId) : Bool := match P.underlying t with | some (.struct _) => true | some (.array _ _) => true | _ => false
def szA (P : Program) (t : TypeId) : Option (Nat × Bool) := match P.info? t, P.underlying t with | some i, some _ => some (i.size, aggT P t) | _, _ => none
def layF (P : Program) (f : Field) : Option (Nat × Nat × Bool) := (szA P f.type).map fun p => (f.offset, p.1, p.2)
def lay (P : Program) (t : TypeId) : Option (List (Nat × Nat × Bool)) := match P.underlying t with | some (.struct fs) => fs.toList.mapM (layF P) | _ => none
def elS (P : Program) (t : TypeId) : Option (TypeId × Nat × Nat) := match P.underlying t with | some (.slice e) => (P.info? e).map fun i => (e, i.size, i.bytes) | _ => none
def elA (P : Program) (t : TypeId) : Option (Nat × TypeId × Nat × Bool) := match P.underlying t with | some (.array n e) => (szA P e).map fun p => (n, e, p.1, p.2) | _ => none
def zr (P : Program) (t : TypeId) : Option (List Value) := ((P.info? t).bind (·.zero)).map fun v => v.cells.toList
def ptB (P : Program) (t : TypeId) : Bool := match P.underlying t with | some (.pointer e) => (P.info? e).isSome | _ => false
def callable (P : Program) (f : FuncId) : Bool := match P.funcs[f]? with | some fn => fn.body.isSome && !(fn.name == "runtime.NumGoroutine") | none => false

/-! ### what an operation yields -/
def Yields (Γ : Ctx) (o : Oper) (T : Env) (L : Hp) (K : Value → Hp → Prop) : Prop :=
  ∀ w, Inv Γ L w → match (execOp (ev T) o).run Γ.P w with
    | .ok (.value v) w' => ∃ L', Inv Γ L' w' ∧ K v L'
    | .ok .skip w' => ∃ L', Inv Γ L' w' ∧ K undef L'
    | .ok (.enter f args) w' => Calls Γ.P f args w' fun e w'' => ∃ v L', e = .returned v ∧ Inv Γ L' w'' ∧ K v L'
    | _ => False
def isCallV (o : Oper) : Bool := match o.op with | .call c => (match c.callee with | .value _ => true | _ => false) | _ => false
def YieldsQ (Γ : Ctx) (o : Oper) (T : Env) (L : Hp) (K : Value → Prop) : Prop :=
  ∃ v, K v ∧ ((∀ w, Inv Γ L w → (execOp (ev T) o).run Γ.P w = .ok (.value v) w) ∨ (isCallV o = true ∧ ∀ w, Inv Γ L w → Oper.quietUpon Γ.P (Inv Γ L) w v ((execOp (ev T) o).run Γ.P w)))
theorem YieldsQ.upon {Γ : Ctx} {o : Oper} {T : Env} {L : Hp} {K : Value → Prop} (h : YieldsQ Γ o T L K) : ∃ v, K v ∧ ∀ w, Inv Γ L w → Oper.quietUpon Γ.P (Inv Γ L) w v ((execOp (ev T) o).run Γ.P w) := by
  obtain ⟨v, hk, h | ⟨_, h⟩⟩ := h
  · exact ⟨v, hk, fun w hi => by rw [h w hi]; exact ⟨rfl, rfl⟩⟩
  · exact ⟨v, hk, h⟩

theorem YieldsQ.yields {Γ : Ctx} {o : Oper} {T : Env} {L : Hp} {K : Value → Hp → Prop} (h : YieldsQ Γ o T L (fun v => K v L)) : Yields Γ o T L K := fun w hi => by
  obtain ⟨v, hk, hw⟩ := h.upon
  have h1 := hw w hi
  revert h1
  generalize (execOp (ev T) o).run Γ.P w = r
  intro h1
  cases r with
  | halt x w' => exact h1.elim
  | ok nx w' =>
    cases nx <;> first | exact h1.elim | skip
    case value u => obtain ⟨rfl, rfl⟩ := h1; exact ⟨L, hi, hk⟩
    case skip => obtain ⟨rfl, rfl⟩ := h1; exact ⟨L, hi, hk⟩
    case enter f args =>
      obtain ⟨rfl, hc⟩ := h1
      exact hc.mono fun e w'' ⟨he, hw''⟩ => ⟨v, L, he, hw'', hk⟩

theorem YieldsQ.mk {Γ : Ctx} {o : Oper} {T : Env} {L : Hp} {K : Value → Prop} (v : Value) (hk : K v) (h : ∀ w, Inv Γ L w → (execOp (ev T) o).run Γ.P w = .ok (.value v) w) : YieldsQ Γ o T L K :=
  ⟨v, hk, .inl h⟩

/-! ### the parts of the word -/
def loadN (Γ : Ctx) (L : Hp) (a : Addr) : Nat → Nat → List Value → (Value → Prop) → Prop
  | _, 0, acc, K => K (.agg acc.toArray)
  | i, k + 1, acc, K => ∃ v, Cell Γ L (a.add i) v ∧ loadN Γ L a (i + 1) k (acc ++ [v]) K
def loadVC (Γ : Ctx) (t : TypeId) (L : Hp) (a : Addr) (K : Value → Prop) : Prop :=
  match szA Γ.P t with
  | some (n, true) => loadN Γ L a 0 n [] K
  | some (_, false) => ∃ v, Cell Γ L a v ∧ K v
  | none => False

/-- Two values of an array or struct type of bools, whole numbers and strings. -/
def aggEq (P : Program) (t : TypeId) (a b : Array Value) (K : Bool → Prop) : Prop :=
  P.keyTypeAt 9 t = true ∧ P.eqGuardType P.depth t = false ∧ (Value.agg a).formed P t = true ∧ (Value.agg b).formed P t = true ∧
    ∃ la lb, P.keyLits 9 t a.toList = some la ∧ P.keyLits 9 t b.toList = some lb ∧ ∀ r : Bool, (r = true ↔ la = lb) → K r
def binVC (P : Program) (op : BinOp) (t : TypeId) (x y : Value) (K : Value → Prop) (D : Prop) : Prop :=
  match op, x, y with
  | .add, .int k a, .int k' b => k = k' ∧ K (.int k (k.wrap (a + b)))
  | .sub, .int k a, .int k' b => k = k' ∧ K (.int k (k.wrap (a - b)))
  | .mul, .int k a, .int k' b => k = k' ∧ K (.int k (k.wrap (a * b)))
  | .quo, .int k a, .int k' b => k = k' ∧ b ≠ 0 ∧ K (.int k (k.wrap (a.tdiv b)))
  | .rem, .int k a, .int k' b => k = k' ∧ b ≠ 0 ∧ K (.int k (a.tmod b))
  | .and, .int k a, .int k' b => k = k' ∧ K (.int k (bits .and k a b))
  | .or, .int k a, .int k' b => k = k' ∧ K (.int k (bits .or k a b))
  | .xor, .int k a, .int k' b => k = k' ∧ K (.int k (bits .xor k a b))
  | .andNot, .int k a, .int k' b => k = k' ∧ K (.int k (bits .andNot k a b))
  | .shl, .int k a, .int _ b => 0 ≤ b ∧ K (.int k (k.wrap (a * 2 ^ (min b.toNat k.bits))))
  | .shr, .int k a, .int _ b => 0 ≤ b ∧ K (.int k (a.fdiv (2 ^ (min b.toNat k.bits))))
  | .eql, .int k a, .int k' b => k = k' ∧ K (.bool (decide (a = b)))
  | .neq, .int k a, .int k' b => k = k' ∧ K (.bool (!decide (a = b)))
  | .lss, .int k a, .int k' b => k = k' ∧ K (.bool (decide (a < b)))
  | .leq, .int k a, .int k' b => k = k' ∧ K (.bool (decide (a ≤ b)))
  | .gtr, .int k a, .int k' b => k = k' ∧ K (.bool (decide (b < a)))
  | .geq, .int k a, .int k' b => k = k' ∧ K (.bool (decide (b ≤ a)))
  | .eql, .bool a, .bool b => P.underlying t = some .bool ∧ K (.bool (a == b))
  | .neq, .bool a, .bool b => P.underlying t = some .bool ∧ K (.bool (!(a == b)))
  | .add, .string a, .string b => a.size + b.size ≤ 9223372036854775807 ∧ K (.string (a ++ b))
  | .eql, .string a, .string b => K (.bool (decide (a = b)))
  | .neq, .string a, .string b => K (.bool (!decide (a = b)))
  | .eql, .agg a, .agg b => aggEq P t a b fun r => K (.bool r)
  | .neq, .agg a, .agg b => aggEq P t a b fun r => K (.bool (!r))
  | .eql, .pointer a, .pointer none => ptB P t = true ∧ K (.bool a.isNone)
  | .neq, .pointer a, .pointer none => ptB P t = true ∧ K (.bool (!a.isNone))
  | .eql, .pointer (some a), .pointer (some b) => ptB P t = true ∧ a = b ∧ K (.bool true)
  | .neq, .pointer (some a), .pointer (some b) => ptB P t = true ∧ a = b ∧ K (.bool false)
  | .eql, .slice a _ _, .slice none 0 0 => (elS P t).isSome = true ∧ K (.bool a.isNone)
  | .neq, .slice a _ _, .slice none 0 0 => (elS P t).isSome = true ∧ K (.bool (!a.isNone))
  | _, _, _ => D

def unVC (op : UnOp) (x : Value) (K : Value → Prop) (D : Prop) : Prop :=
  match op, x with
  | .not, .bool b => K (.bool (!b))
  | .neg, .int k n => K (.int k (k.wrap (0 - n)))
  | .xor, .int k n => K (.int k (bits .xor k (if k.signed then -1 else k.max) n))
  | _, _ => D

def convVC (Γ : Ctx) (s d : TypeId) (x : Value) (L : Hp) (K : Value → Prop) (D : Prop) : Prop :=
  match x with
  | .int _ n => match Γ.P.underlying s, Γ.P.underlying d with
    | some _, some (.int k) => K (.int k (k.wrap n))
    | _, _ => D
  | .slice (some a) len _ => match Γ.P.underlying s, Γ.P.underlying d with
    | some (.slice e), some .string => Γ.P.underlying e = some (.int .u8) ∧ ∃ l : List UInt8, l.length = len ∧ (∀ j (h : j < l.length), Cell Γ L (a.add j) (.int .u8 (l[j].toNat : Int))) ∧ K (.string ⟨l.toArray⟩)
    | _, _ => D
  | .slice none _ _ => match Γ.P.underlying s, Γ.P.underlying d with
    | some (.slice e), some .string => Γ.P.underlying e = some (.int .u8) ∧ K (.string ByteArray.empty)
    | _, _ => D
  | _ => D

/-- The address of a cut. -/
def cutA (base : Option Addr) (sz m l : Nat) : Option Addr := if m = l then base else base.map (·.add (l * sz))
def optI (d : Int) : Option Value → Option Int
  | none => some d
  | some (.int _ n) => some n
  | _ => none
def sliceVC (P : Program) (t : TypeId) (x : Value) (lo hi mx : Option Value) (K : Value → Prop) (D : Prop) : Prop :=
  match x with
  | .string s => match P.underlying t, optI 0 lo, optI s.size hi, mx with
    | some .string, some l, some h, none => (0 ≤ l ∧ l ≤ h ∧ h ≤ s.size) ∧ K (.string (s.extract l.toNat h.toNat))
    | _, _, _, _ => D
  | .slice base len cap => match elS P t, optI 0 lo, optI len hi, mx with
    | some (_, sz, _), some l, some h, none => ((hi.isSome ∨ len ≤ cap) ∧ 0 ≤ l ∧ l ≤ h ∧ h ≤ cap) ∧ K (.slice (cutA base sz cap l.toNat) (h.toNat - l.toNat) (cap - l.toNat))
    | _, _, _, _ => D
  | .pointer (some a) => match elA P t, optI 0 lo, hi, mx with
    | some (n, _, sz, _), some l, none, none => (0 ≤ l ∧ l ≤ n) ∧ K (.slice (cutA (some a) sz n l.toNat) (n - l.toNat) (n - l.toNat))
    | some (n, _, sz, _), some l, some (.int _ h), none => (0 ≤ l ∧ l ≤ h ∧ h ≤ n) ∧ K (.slice (cutA (some a) sz n l.toNat) (h.toNat - l.toNat) (n - l.toNat))
    | _, _, _, _ => D
  | _ => D

def partVC (ag : Bool) (sz : Nat) (cs : Array Value) (off : Nat) (K : Value → Prop) : Prop :=
  if ag then K (.agg (cs.toList.drop off |>.take sz).toArray) else ∃ v, cs.toList[off]? = some v ∧ K v

def fieldVC (P : Program) (t : TypeId) (x : Value) (f : Nat) (K : Value → Prop) (D : Prop) : Prop :=
  match x with
  | .agg cs => match lay P t with
    | some l => match l[f]? with
      | some (off, sz, ag) => partVC ag sz cs off K
      | none => D
    | none => D
  | _ => D
def indexVC (P : Program) (t : TypeId) (x i : Value) (K : Value → Prop) (D : Prop) : Prop :=
  match x, i with
  | .agg cs, .int _ i => match elA P t with
    | some (n, _, sz, ag) => (0 ≤ i ∧ i < n) ∧ partVC ag sz cs (i.toNat * sz) K
    | none => D
  | .string s, .int _ i => P.underlying t = some .string ∧ 0 ≤ i ∧ ∃ b : UInt8, s.data.toList[i.toNat]? = some b ∧ K (.int .u8 (b.toNat : Int))
  | _, _ => D
def indexAddrVC (P : Program) (t : TypeId) (x i : Value) (K : Value → Prop) (D : Prop) : Prop :=
  match x, i with
  | .slice base len _, .int _ i => match elS P t with
    | some (_, sz, _) => (0 ≤ i ∧ i < len) ∧ ∃ a, base = some a ∧ K (.pointer (some (a.add (i.toNat * sz))))
    | none => D
  | .pointer (some a), .int _ i => match elA P t with
    | some (n, _, sz, _) => (0 ≤ i ∧ i < n) ∧ K (.pointer (some (a.add (i.toNat * sz))))
    | none => D
  | _, _ => D

def setN : List Value → Nat → List Value → List Value
  | cells, _, [] => cells
  | cells, off, c :: cs => setN (cells.set off c) (off + 1) cs
def fillL (place : Nat → Option (Nat × Nat)) : List Value → List (Nat × Value) → Option (List Value)
  | cells, [] => some cells
  | cells, (i, v) :: rest => match place i with
    | none => none
    | some (off, size) => if v.cells.size = size ∧ off + size ≤ cells.length then fillL place (setN cells off v.cells.toList) rest else none
def placeL (l : List (Nat × Nat × Bool)) (i : Nat) : Option (Nat × Nat) := match l[i]? with | some (a, b, _) => some (a, b) | none => none
def buildVC (P : Program) (t : TypeId) (parts : List (Nat × Value)) (K : Value → Prop) (D : Prop) : Prop :=
  match lay P t, zr P t with
  | some l, some z => match fillL (placeL l) z parts with
    | some cs => K (.agg cs.toArray)
    | none => D
  | _, _ => match elA P t, zr P t with
    | some (_, _, sz, _), some z => match fillL (fun i => some (i * sz, sz)) z parts with
      | some cs => K (.agg cs.toArray)
      | none => D
    | _, _ => D

def lenVC (P : Program) (ty : TypeId) (x : Value) (K : Value → Prop) (D : Prop) : Prop :=
  match x with
  | .slice _ n _ => (elS P ty).isSome = true ∧ K (.int .i64 n)
  | .string s => P.underlying ty = some .string ∧ K (.int .i64 s.size)
  | _ => D
def capVC (P : Program) (ty : TypeId) (x : Value) (K : Value → Prop) (D : Prop) : Prop :=
  match x with
  | .slice _ _ n => (elS P ty).isSome = true ∧ K (.int .i64 n)
  | _ => D

def pickVC (v x y : Value) (K : Value → Prop) (D : Prop) : Prop := match v with | .bool c => K (if c then x else y) | _ => D
def ldVC (Γ : Ctx) (t : TypeId) (v : Value) (L : Hp) (K : Value → Prop) (D : Prop) : Prop := match v with | .pointer (some a) => loadVC Γ t L a K | _ => D
def nilVC (v : Value) (K : Value → Prop) (D : Prop) : Prop := match v with | .pointer (some a) => K (.pointer (some a)) | _ => D
def faVC (P : Program) (t : TypeId) (v : Value) (f : Nat) (K : Value → Prop) (D : Prop) : Prop :=
  match v with
  | .pointer (some a) => match lay P t with
    | some l => match l[f]? with
      | some (off, sz, _) => sz ≠ 0 ∧ K (.pointer (some (a.add off)))
      | none => D
    | none => D
  | _ => D
def extVC (v : Value) (i : Nat) (K : Value → Prop) (D : Prop) : Prop := match v with | .tuple vs => ∃ v, vs.toList[i]? = some v ∧ K v | _ => D
def minVC (x y : Value) (K : Value → Prop) (D : Prop) : Prop := match x, y with | .int k a, .int _ b => K (.int k (if b < a then b else a)) | _, _ => D
def maxVC (x y : Value) (K : Value → Prop) (D : Prop) : Prop := match x, y with | .int k a, .int _ b => K (.int k (if b > a then b else a)) | _, _ => D
def qcallVC (Γ : Ctx) (f : Value) (args : Array Value) (L : Hp) (K : Value → Prop) (D : Prop) : Prop :=
  match f with
  | .func (.func k) first cap => callable Γ.P k = true ∧ ∃ v, SCall Γ k (first ++ args ++ cap) L (fun v' L' => v' = v ∧ L' = L) ∧ K v
  | _ => D

/-! ### maps of whole numbers and strings as keys -/
def mapT (P : Program) (t : TypeId) : Option (TypeDesc × Option Value) := match P.underlying t with
  | some (.map k e) => match P.underlying k with
    | some (.int kk) => some (.int kk, (P.info? e).bind (·.zero))
    | some .string => some (.string, (P.info? e).bind (·.zero))
    | _ => none
  | _ => none
def fndK (z : Option Value) (ok : Bool) (fr : Option (Nat × Value)) (K : Value → Prop) : Prop := match fr with
  | some (_, v) => K (if ok then .tuple #[v, .bool true] else v)
  | none => ∃ z0, z = some z0 ∧ K (if ok then .tuple #[z0, .bool false] else z0)
def lkVC (Γ : Ctx) (t : TypeId) (x k : Value) (ok : Bool) (L : Hp) (K : Value → Prop) (D : Prop) : Prop := match x with
  | .map none => ∃ kd z, mapT Γ.P t = some (kd, z) ∧ fndK z ok none K
  | .map (some r) => ∃ kd z, mapT Γ.P t = some (kd, z) ∧ ∃ (i : Nat) (es : List MapEntry) (ck : Nat), L[i]? = some (some (r, .map es.toArray ck)) ∧ ∃ fr, Instr.findNow kd k es 0 = some fr ∧ fndK z ok fr K
  | _ => D

/-- The quiet operations. -/
def VQ (Γ : Ctx) (o : Oper) (T : Env) (L : Hp) (K : Value → Prop) : Prop :=
  match o.op with
  | .move x => K (ev T x)
  | .assign x => K (ev T x)
  | .pick c a b => pickVC (ev T c) (ev T a) (ev T b) K False
  | .load t a => ldVC Γ t (ev T a) L K False
  | .nilCheck x => nilVC (ev T x) K False
  | .binOp op t x y _ => binVC Γ.P op t (ev T x) (ev T y) K (YieldsQ Γ o T L K)
  | .unOp op _ x => unVC op (ev T x) K False
  | .convert s d x => convVC Γ s d (ev T x) L K (YieldsQ Γ o T L K)
  | .makeFunc fn first cap => K (.func fn (first.map (ev T)) (cap.map (ev T)))
  | .fieldAddr t x f => faVC Γ.P t (ev T x) f K False
  | .field t x f => fieldVC Γ.P t (ev T x) f K False
  | .indexAddr t x i => indexAddrVC Γ.P t (ev T x) (ev T i) K False
  | .index t x i => indexVC Γ.P t (ev T x) (ev T i) K False
  | .slice t x lo hi mx => sliceVC Γ.P t (ev T x) (lo.map (ev T)) (hi.map (ev T)) (mx.map (ev T)) K False
  | .extract x i => extVC (ev T x) i K False
  | .lookup t x k ok => lkVC Γ t (ev T x) (ev T k) ok L K False
  | .build t parts => buildVC Γ.P t (parts.toList.map fun p => (p.1, ev T p.2)) K False
  | .call c => match c.callee, c.args.toList, c.argTypes.toList with
    | .builtin .len, [x], [ty] => lenVC Γ.P ty (ev T x) K False
    | .builtin .cap, [x], [ty] => capVC Γ.P ty (ev T x) K False
    | .builtin .min, [x, y], _ => minVC (ev T x) (ev T y) K False
    | .builtin .max, [x, y], _ => maxVC (ev T x) (ev T y) K False
    | .value f, _, _ => qcallVC Γ (ev T f) (c.args.map (ev T)) L K False
    | _, _, _ => YieldsQ Γ o T L K
  | _ => YieldsQ Γ o T L K
end Go.SX
