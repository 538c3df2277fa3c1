/- A part of the proof of OpsLinesCardSaid. -/
import Derived.Test.YthhogfnghaikaaaDoorCSxDrawn
set_option linter.unusedVariables false
set_option linter.unusedSimpArgs false
namespace Go.SX
open Go.RowKit
section
variable {K : Env → Hp → Prop} {Q : Exit → Env → Hp → Prop} {res : Env → Hp → Value → Prop} {R : Value → Hp → Prop} {T : Env} {L : Hp}
theorem less_refl_t (L : Hp) : Less L L = True := eq_true (Less.refl L)
theorem less_drop_t (p : Slot) (L : Hp) : Less (p :: L) L = True := eq_true (Less.drop p L)
theorem andThen_normal : andThen K Q .normal T L = K T L := rfl
theorem andThen_ret : andThen K Q .ret T L = Q .ret T L := rfl
theorem andThen_exit (i : Nat) : andThen K Q (.exit i) T L = Q (.exit i) T L := rfl
theorem inBlk_normal (i : Nat) : inBlk i Q .normal T L = Q .normal T L := rfl
theorem inBlk_ret (i : Nat) : inBlk i Q .ret T L = Q .ret T L := rfl
theorem inBlk_exit (i j : Nat) : inBlk i Q (.exit j) T L = if j = i then Q .normal T L else Q (.exit j) T L := rfl
theorem retQ_ret : retQ res R .ret T L = ∃ v L', Less L L' ∧ res T L v ∧ R v L' := rfl
theorem retQ_normal : retQ res R .normal T L = ∃ v L', Less L L' ∧ res T L v ∧ R v L' := rfl
end
section
variable {P : Program} {Γ : Ctx} {t : TypeId} {k k' : IntKind} {a b : Int} {K : Value → Prop} {D : Prop} {L : Hp} {ad : Addr} {K2 : Value → Hp → Prop} {K3 : Hp → Prop} {D2 : Prop}
theorem bin_add : binVC P .add t (.int k a) (.int k' b) K D = (k = k' ∧ K (.int k (k.wrap (a + b)))) := rfl
theorem bin_sub : binVC P .sub t (.int k a) (.int k' b) K D = (k = k' ∧ K (.int k (k.wrap (a - b)))) := rfl
theorem bin_mul : binVC P .mul t (.int k a) (.int k' b) K D = (k = k' ∧ K (.int k (k.wrap (a * b)))) := rfl
theorem bin_quo : binVC P .quo t (.int k a) (.int k' b) K D = (k = k' ∧ b ≠ 0 ∧ K (.int k (k.wrap (a.tdiv b)))) := rfl
theorem bin_rem : binVC P .rem t (.int k a) (.int k' b) K D = (k = k' ∧ b ≠ 0 ∧ K (.int k (a.tmod b))) := rfl
theorem bin_and : binVC P .and t (.int k a) (.int k' b) K D = (k = k' ∧ K (.int k (bits .and k a b))) := rfl
theorem bin_or : binVC P .or t (.int k a) (.int k' b) K D = (k = k' ∧ K (.int k (bits .or k a b))) := rfl
theorem bin_xor : binVC P .xor t (.int k a) (.int k' b) K D = (k = k' ∧ K (.int k (bits .xor k a b))) := rfl
theorem bin_andNot : binVC P .andNot t (.int k a) (.int k' b) K D = (k = k' ∧ K (.int k (bits .andNot k a b))) := rfl
theorem bin_shl : binVC P .shl t (.int k a) (.int k' b) K D = (0 ≤ b ∧ K (.int k (k.wrap (a * 2 ^ (min b.toNat k.bits))))) := rfl
theorem bin_shr : binVC P .shr t (.int k a) (.int k' b) K D = (0 ≤ b ∧ K (.int k (a.fdiv (2 ^ (min b.toNat k.bits))))) := rfl
theorem bin_eql : binVC P .eql t (.int k a) (.int k' b) K D = (k = k' ∧ K (.bool (decide (a = b)))) := rfl
theorem bin_eqlpn {p : Option Addr} : binVC P .eql t (.pointer p) (.pointer none) K D = (ptB P t = true ∧ K (.bool p.isNone)) := rfl
theorem bin_neqpn {p : Option Addr} : binVC P .neq t (.pointer p) (.pointer none) K D = (ptB P t = true ∧ K (.bool (!p.isNone))) := rfl
theorem bin_eqlpp {p q : Addr} : binVC P .eql t (.pointer (some p)) (.pointer (some q)) K D = (ptB P t = true ∧ p = q ∧ K (.bool true)) := rfl
theorem bin_neqpp {p q : Addr} : binVC P .neq t (.pointer (some p)) (.pointer (some q)) K D = (ptB P t = true ∧ p = q ∧ K (.bool false)) := rfl
theorem bin_eqlsn {p : Option Addr} {n c : Nat} : binVC P .eql t (.slice p n c) (.slice none 0 0) K D = ((elS P t).isSome = true ∧ K (.bool p.isNone)) := rfl
theorem bin_neqsn {p : Option Addr} {n c : Nat} : binVC P .neq t (.slice p n c) (.slice none 0 0) K D = ((elS P t).isSome = true ∧ K (.bool (!p.isNone))) := rfl
theorem bin_neq : binVC P .neq t (.int k a) (.int k' b) K D = (k = k' ∧ K (.bool (!decide (a = b)))) := rfl
theorem bin_lss : binVC P .lss t (.int k a) (.int k' b) K D = (k = k' ∧ K (.bool (decide (a < b)))) := rfl
theorem bin_leq : binVC P .leq t (.int k a) (.int k' b) K D = (k = k' ∧ K (.bool (decide (a ≤ b)))) := rfl
theorem bin_gtr : binVC P .gtr t (.int k a) (.int k' b) K D = (k = k' ∧ K (.bool (decide (b < a)))) := rfl
theorem bin_geq : binVC P .geq t (.int k a) (.int k' b) K D = (k = k' ∧ K (.bool (decide (b ≤ a)))) := rfl
theorem bin_eqlb (x y : Bool) : binVC P .eql t (.bool x) (.bool y) K D = (P.underlying t = some .bool ∧ K (.bool (x == y))) := rfl
theorem bin_neqb (x y : Bool) : binVC P .neq t (.bool x) (.bool y) K D = (P.underlying t = some .bool ∧ K (.bool (!(x == y)))) := rfl
theorem bin_adds (x y : ByteArray) : binVC P .add t (.string x) (.string y) K D = (x.size + y.size ≤ 9223372036854775807 ∧ K (.string (x ++ y))) := rfl
theorem bin_eqla (x y : Array Value) : binVC P .eql t (.agg x) (.agg y) K D = aggEq P t x y fun r => K (.bool r) := rfl
theorem bin_neqa (x y : Array Value) : binVC P .neq t (.agg x) (.agg y) K D = aggEq P t x y fun r => K (.bool (!r)) := rfl
theorem bin_eqls (x y : ByteArray) : binVC P .eql t (.string x) (.string y) K D = K (.bool (decide (x = y))) := rfl
theorem bin_neqs (x y : ByteArray) : binVC P .neq t (.string x) (.string y) K D = K (.bool (!decide (x = y))) := rfl
theorem un_not (x : Bool) : unVC .not (.bool x) K D = K (.bool (!x)) := rfl
theorem un_neg : unVC .neg (.int k a) K D = K (.int k (k.wrap (0 - a))) := rfl
theorem un_xor : unVC .xor (.int k a) K D = K (.int k (bits .xor k (if k.signed then -1 else k.max) a)) := rfl
theorem pick_bool (c : Bool) (x y : Value) : pickVC (.bool c) x y K D = K (if c then x else y) := rfl
theorem ld_ptr : ldVC Γ t (.pointer (some ad)) L K D = loadVC Γ t L ad K := rfl
theorem nil_ptr : nilVC (.pointer (some ad)) K D = K (.pointer (some ad)) := rfl
theorem fa_ptr (f : Nat) : faVC P t (.pointer (some ad)) f K D = (match lay P t with
    | some l => match l[f]? with
      | some (off, sz, _) => sz ≠ 0 ∧ K (.pointer (some (ad.add off)))
      | none => D
    | none => D) := rfl
theorem ext_tup (vs : Array Value) (i : Nat) : extVC (.tuple vs) i K D = ∃ v, vs.toList[i]? = some v ∧ K v := rfl
theorem min_int : minVC (.int k a) (.int k' b) K D = K (.int k (if b < a then b else a)) := rfl
theorem max_int : maxVC (.int k a) (.int k' b) K D = K (.int k (if b > a then b else a)) := rfl
theorem qcall_f (f : FuncId) (fi ca as : Array Value) : qcallVC Γ (.func (.func f) fi ca) as L K D = (callable Γ.P f = true ∧ ∃ v, SCall Γ f (fi ++ as ++ ca) L (fun v' L' => v' = v ∧ L' = L) ∧ K v) := rfl
theorem field_agg (cs : Array Value) (f : Nat) : fieldVC P t (.agg cs) f K D = (match lay P t with
    | some l => match l[f]? with
      | some (off, sz, ag) => partVC ag sz cs off K
      | none => D
    | none => D) := rfl
theorem index_agg (cs : Array Value) : indexVC P t (.agg cs) (.int k a) K D = (match elA P t with
    | some (n, _, sz, ag) => (0 ≤ a ∧ a < n) ∧ partVC ag sz cs (a.toNat * sz) K
    | none => D) := rfl
theorem index_str (s : ByteArray) : indexVC P t (.string s) (.int k a) K D = (P.underlying t = some .string ∧ 0 ≤ a ∧ ∃ b : UInt8, s.data.toList[a.toNat]? = some b ∧ K (.int .u8 (b.toNat : Int))) := rfl
theorem ia_slice (base : Option Addr) (len cap : Nat) : indexAddrVC P t (.slice base len cap) (.int k a) K D = (match elS P t with
    | some (_, sz, _) => (0 ≤ a ∧ a < len) ∧ ∃ ad, base = some ad ∧ K (.pointer (some (ad.add (a.toNat * sz))))
    | none => D) := rfl
theorem ia_arr : indexAddrVC P t (.pointer (some ad)) (.int k a) K D = (match elA P t with
    | some (n, _, sz, _) => (0 ≤ a ∧ a < n) ∧ K (.pointer (some (ad.add (a.toNat * sz))))
    | none => D) := rfl
theorem len_slice (base : Option Addr) (n c : Nat) : lenVC P t (.slice base n c) K D = ((elS P t).isSome = true ∧ K (.int .i64 n)) := rfl
theorem len_str (s : ByteArray) : lenVC P t (.string s) K D = (P.underlying t = some .string ∧ K (.int .i64 s.size)) := rfl
theorem cap_slice (base : Option Addr) (n c : Nat) : capVC P t (.slice base n c) K D = ((elS P t).isSome = true ∧ K (.int .i64 c)) := rfl
theorem conv_int (s d : TypeId) : convVC Γ s d (.int k a) L K D = (match Γ.P.underlying s, Γ.P.underlying d with
    | some _, some (.int k) => K (.int k (k.wrap a))
    | _, _ => D) := rfl
theorem conv_slice (s d : TypeId) (len cap : Nat) : convVC Γ s d (.slice (some ad) len cap) L K D = (match Γ.P.underlying s, Γ.P.underlying d with
    | some (.slice e), some .string => Γ.P.underlying e = some (.int .u8) ∧ ∃ l : List UInt8, l.length = len ∧ (∀ j (h : j < l.length), Cell Γ L (ad.add j) (.int .u8 (l[j].toNat : Int))) ∧ K (.string ⟨l.toArray⟩)
    | _, _ => D) := rfl
theorem conv_nil (s d : TypeId) (len cap : Nat) : convVC Γ s d (.slice none len cap) L K D = (match Γ.P.underlying s, Γ.P.underlying d with
    | some (.slice e), some .string => Γ.P.underlying e = some (.int .u8) ∧ K (.string ByteArray.empty)
    | _, _ => D) := rfl
theorem cv_str (s d : TypeId) (str : ByteArray) : cvVC Γ s d (.string str) L K2 D D2 = (match Γ.P.underlying s, Γ.P.underlying d with
    | some _, some (.slice e) => Γ.P.underlying e = some (.int .u8) ∧ ∀ b cap, str.size ≤ cap →
        K2 (.slice (some ⟨b, 0, none⟩) str.size cap) (some (b, .cells (bytesV str ++ List.replicate (cap - str.size) (Value.int .u8 0)).toArray e (cap, cap + 1)) :: L)
    | some _, some .string => K2 (.string str) L
    | _, _ => D) := rfl
theorem cv_int (s d : TypeId) : cvVC Γ s d (.int k a) L K2 D D2 = D2 := rfl
theorem cv_slice (s d : TypeId) (A : Option Addr) (n c : Nat) : cvVC Γ s d (.slice A n c) L K2 D D2 = D2 := rfl
theorem st_ptr (v : Value) : stVC Γ t (.pointer (some ad)) v L K3 D = storeVC Γ t ad v L K3 := rfl
theorem mk_int : mkVC Γ t (.int k a) (.int k' b) L K2 D = (match elS Γ.P t with
    | some (e, sz, by_) => match zr Γ.P e with
      | some z => (0 ≤ a ∧ a ≤ b ∧ b * by_ ≤ 281474976710656 ∧ b ≤ 9223372036854775807 ∧ z.length = sz) ∧
          ∀ bk, K2 (.slice (some ⟨bk, 0, none⟩) a.toNat b.toNat) (some (bk, .cells (zerosV z b.toNat).toArray e (0, 0)) :: L)
      | none => D
    | none => D) := rfl
theorem call_f (f : FuncId) (fi ca as : Array Value) : callVC Γ (.func (.func f) fi ca) as L K2 D = (callable Γ.P f = true ∧ SCall Γ f (fi ++ as ++ ca) L K2) := rfl
theorem rg_str (s : ByteArray) : rgVC Γ t (.string s) L K2 D = (Γ.P.underlying t = some .string ∧ ∀ b, K2 (.pointer (some ⟨b, 0, none⟩)) (some (b, .stringIter s 0) :: L)) := rfl
theorem nx_ptr (b : Nat) : nxVC (.pointer (some ⟨b, 0, none⟩)) L K2 D = ∃ (i : Nat) (s : ByteArray) (pos : Nat), L[i]? = some (some (b, .stringIter s pos)) ∧
      if pos < s.size then K2 (.tuple #[.bool true, .int .i64 pos, .int .i32 (Utf8.decode s pos).1]) (L.set i (some (b, .stringIter s (pos + (Utf8.decode s pos).2)))) else K2 (.tuple #[.bool false]) L := rfl
theorem mu_map (r : Nat) (x y : Value) : muVC Γ t (.map (some r)) x y L K3 D = ∃ kd z, mapT Γ.P t = some (kd, z) ∧ ∃ (i : Nat) (es : List MapEntry) (ck : Nat), L[i]? = some (some (r, .map es.toArray ck)) ∧ ∃ fr, Instr.findNow kd x es 0 = some fr ∧ K3 (L.set i (some (r, mapPut es ck x y fr))) := rfl
theorem lk_map (r : Nat) (x : Value) (ok : Bool) : lkVC Γ t (.map (some r)) x ok L K D = ∃ kd z, mapT Γ.P t = some (kd, z) ∧ ∃ (i : Nat) (es : List MapEntry) (ck : Nat), L[i]? = some (some (r, .map es.toArray ck)) ∧ ∃ fr, Instr.findNow kd x es 0 = some fr ∧ fndK z ok fr K := rfl
theorem lk_nil (x : Value) (ok : Bool) : lkVC Γ t (.map none) x ok L K D = ∃ kd z, mapT Γ.P t = some (kd, z) ∧ fndK z ok none K := rfl
theorem fnd_some (z : Option Value) (ok : Bool) (i : Nat) (v : Value) : fndK z ok (some (i, v)) K = K (if ok then .tuple #[v, .bool true] else v) := rfl
theorem fnd_none (z : Value) (ok : Bool) : fndK (some z) ok none K = K (if ok then .tuple #[z, .bool false] else z) := by simp [fndK]
end
theorem env0_zero (v : Value) (l : List Value) : env0 (v :: l) 0 = v := rfl
theorem env0_succ (v : Value) (l : List Value) (i : Nat) : env0 (v :: l) (i + 1) = env0 l i := rfl
theorem env0_nil (i : Nat) : env0 [] i = undef := rfl
theorem cells_int (k : IntKind) (n : Int) : Value.cells (.int k n) = #[.int k n] := rfl
theorem cells_bool (b : Bool) : Value.cells (.bool b) = #[.bool b] := rfl
theorem cells_string (s : ByteArray) : Value.cells (.string s) = #[.string s] := rfl
theorem cells_pointer (a : Option Addr) : Value.cells (.pointer a) = #[.pointer a] := rfl
theorem cells_slice (a : Option Addr) (n c : Nat) : Value.cells (.slice a n c) = #[.slice a n c] := rfl
theorem cells_map (r : Option Nat) : Value.cells (.map r) = #[.map r] := rfl
theorem cells_func (f : Fn) (a c : Array Value) : Value.cells (.func f a c) = #[.func f a c] := rfl
theorem cells_nilFunc : Value.cells .nilFunc = #[.nilFunc] := rfl
theorem cells_nilIface : Value.cells .nilIface = #[.nilIface] := rfl
theorem cells_iface (t : TypeId) (v : Value) : Value.cells (.iface t v) = #[.iface t v] := rfl
theorem cells_agg (cs : Array Value) : Value.cells (.agg cs) = cs := rfl
theorem oneB_nil : oneB [] = true := rfl
theorem oneB_cons (v : Value) (l : List Value) : oneB (v :: l) = (v.oneCell' && oneB l) := rfl
theorem one_int (k : IntKind) (n : Int) : Value.oneCell' (.int k n) = true := rfl
theorem one_bool (b : Bool) : Value.oneCell' (.bool b) = true := rfl
theorem one_string (s : ByteArray) : Value.oneCell' (.string s) = true := rfl
theorem one_pointer (a : Option Addr) : Value.oneCell' (.pointer a) = true := rfl
theorem one_slice (a : Option Addr) (n c : Nat) : Value.oneCell' (.slice a n c) = true := rfl
theorem one_map (r : Option Nat) : Value.oneCell' (.map r) = true := rfl
theorem one_func (f : Fn) (a c : Array Value) : Value.oneCell' (.func f a c) = true := rfl
theorem one_nilFunc : Value.oneCell' .nilFunc = true := rfl
theorem one_nilIface : Value.oneCell' .nilIface = true := rfl
theorem one_iface (t : TypeId) (v : Value) : Value.oneCell' (.iface t v) = true := rfl
theorem add_addS (a : Addr) (m n : Nat) : (a.add m).add n = a.add (m + n) := by
  unfold Addr.add
  by_cases hm : m = 0 <;> by_cases hn : n = 0 <;> simp [hm, hn, Nat.add_assoc]
theorem existsSome {α : Type} (x : α) (p : α → Prop) : (∃ a, some x = some a ∧ p a) = p x := by simp
theorem size_lit (l : List Value) : (l.toArray).size = l.length := rfl
theorem ite_bool_lit (c : Bool) (x y : Value) : (if c = true then x else y) = (if c then x else y) := rfl
/-- Arithmetic that does not wrap. -/
theorem w64 {n : Int} (h : -9223372036854775808 ≤ n ∧ n ≤ 9223372036854775807) : IntKind.i64.wrap n = n := by rw [IntKind.wrap_i64]; omega
theorem wu8 {n : Int} (h : 0 ≤ n ∧ n ≤ 255) : IntKind.u8.wrap n = n := by rw [IntKind.wrap_u8]; omega
theorem wu16 {n : Int} (h : 0 ≤ n ∧ n ≤ 65535) : IntKind.u16.wrap n = n := by rw [IntKind.wrap_u16]; omega

/-! ### what is read -/
/-- A slice that reads as xs: R tells what lies at an element's address. -/
def Sl {α : Type} (sz : Nat) (R : (Addr → Value → Prop) → Addr → α → Prop) (C : Addr → Value → Prop) (v : Value) (xs : List α) : Prop :=
  ∃ A cap, v = .slice A xs.length cap ∧ xs.length ≤ cap ∧ ∀ j x, xs[j]? = some x → ∃ a, A = some a ∧ R C (a.add (j * sz)) x
def RInt (k : IntKind) : (Addr → Value → Prop) → Addr → Int → Prop := fun C a x => C a (.int k x)
def RBool : (Addr → Value → Prop) → Addr → Bool → Prop := fun C a x => C a (.bool x)
abbrev SlI (k : IntKind) := Sl 1 (RInt k)
end Go.SX
