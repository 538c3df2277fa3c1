/- A part of a proof: contracts and plain facts that it stands on. -/
import Derived.Test.YtcenlgofldnfcaaDoorCB
import Derived.Laws.IdiomStrings
import Derived.KernelRfl
import Derived.Lib.EndianBits
set_option linter.unusedVariables false
set_option linter.unusedSimpArgs false
namespace Go.Proofs.YtcenlgofldnfcaaDoor
open Go.RowKit Go.SX Go.Proofs
open Go.SX renaming ia_someH → Φa

/-! A record's line. -/
structure OkR (r : Rc) : Prop where
  code : 0 ≤ r.code ∧ r.code ≤ 255
  ad : 0 ≤ r.ad ∧ r.ad ≤ 65535
  data : 0 ≤ r.data ∧ r.data ≤ 255
  port : 0 ≤ r.port ∧ r.port ≤ 255
  md : 0 ≤ r.md ∧ r.md ≤ 255
theorem SCall.pre {Γ : Ctx} {f : FuncId} {args : Array Value} {L L' : Hp} {R : Value → Hp → Prop} (hl : Less L L') (h : SCall Γ f args L' R) : SCall Γ f args L R := fun w hi => h w (hl _ _ hi)
def mdL : List ByteArray := [⟨#[]⟩, ⟨#[112, 97, 117, 115, 101]⟩, ⟨#[114, 101, 115, 101, 116]⟩, ⟨#[108, 111, 97, 100]⟩]
def MD (Γ : Ctx) : Prop := ∀ (L : Hp) (i : Nat), i < 4 → Cell Γ L ⟨0, i, none⟩ (.string (mdL.getD i ⟨#[]⟩))
def whenS (b : Bool) (s : ByteArray) : ByteArray := if b = true then s else ⟨#[]⟩
def kAt (i : Nat) : FuncId := [58, 60, 61, 62, 64, 65, 66, 67].getD i 58
def wordAt (x : Rc) : Nat → ByteArray
  | 0 => ⟨#[115]⟩ ++ hexS x.code.toNat 1
  | 1 => hexS x.ad.toNat 4
  | 2 => hexS x.data.toNat 2
  | 3 => whenS x.rd ⟨#[114]⟩
  | 4 => whenS x.wr ⟨#[119]⟩
  | 5 => whenS (!decide (x.port = 0)) (⟨#[110]⟩ ++ hexS x.port.toNat 1)
  | 6 => whenS x.q ⟨#[113]⟩
  | _ => mdL.getD (x.md.toNat % 4) ⟨#[]⟩
theorem hexS_size (n k : Nat) : (hexS n k).size = k := by unfold hexS; rw [txt_size, hexF_length]
theorem and3 {x : Int} (h : 0 ≤ x ∧ x ≤ 255) : bits .and .u8 x 3 = ((x.toNat % 4 : Nat) : Int) := by
  have key : ∀ k : Fin 256, bits .and .u8 (k.1 : Int) 3 = ((k.1 % 4 : Nat) : Int) := by decide +kernel
  have := key ⟨x.toNat, by omega⟩
  rw [show ((⟨x.toNat, by omega⟩ : Fin 256).1 : Int) = x by show ((x.toNat : Nat) : Int) = x; omega] at this
  exact this
set_option maxHeartbeats 1000000 in
set_option maxRecDepth 100000 in
theorem when_spec {Γ : Ctx} (hP : Γ.P = Tryd.prog) {L : Hp} {on : Bool} {s : ByteArray} :
    SCall Γ 63 #[(.bool on), (.string s)] L (fun v L' => v = .string (whenS on s) ∧ L' = L) := by
  refine SCall.enter (n := 7) (res1 4) (hP ▸ Tryd.func63) rfl rfl (by simp) (res1_ok rfl) ?_
  refine SX.seq_k fun K1 hK1 => ?_
  refine SX.region_d [some 4] rfl (fun ops hops => ?_)
  unfold Dsts at hops
  simp (maxSteps:=1000000)(dsimp:=false)(disch:=omega) only [go_sem, Φa, hP, hops]
  refine hK1 _ _ ?_
  try clear hK1 K1
  refine SX.seq_k fun K2 hK2 => ?_
  refine SX.seq_k fun K3 hK3 => ?_
  refine SX.region_d [some 5] rfl (fun ops hops => ?_)
  unfold Dsts at hops
  simp (maxSteps:=1000000)(dsimp:=false)(disch:=omega) only [go_sem, Φa, hP, hops]
  refine hK3 _ _ ?_
  try clear hK3 K3
  refine SX.cond_k fun X4 Y4 hX4 hY4 => ?_
  simp (maxSteps:=1000000)(dsimp:=false)(disch:=omega) only [go_sem, Φa, hP, condVC]
  refine ⟨fun hc5 => hX4 ?_, fun hc5 => hY4 ?_⟩
  · clear hX4 hY4 X4 Y4
    refine SX.seq_k fun K5 hK5 => ?_
    refine SX.region_d [some 6, some 4] rfl (fun ops hops => ?_)
    unfold Dsts at hops
    simp (maxSteps:=1000000)(dsimp:=false)(disch:=omega) only [go_sem, Φa, hP, hops]
    refine hK5 _ _ ?_
    try clear hK5 K5
    refine SX.ret ?_
    simp only [andThen_normal, andThen_ret, andThen_exit, inBlk_normal, inBlk_ret, inBlk_exit, Nat.reduceEqDiff, if_true, if_false, ↓reduceIte, retQ_ret]
    try simp only [res0, res1, res2, res3, stK_e, go_sem, Φa, hP]
    obtain rfl : on = true := hc5
    exact ⟨_, _, Less.refl _, rfl, rfl, rfl⟩
  · clear hX4 hY4 X4 Y4
    refine SX.skip ?_
    try simp only [andThen_normal, andThen_ret, andThen_exit, inBlk_normal, inBlk_ret, inBlk_exit, Nat.reduceEqDiff, if_true, if_false, ↓reduceIte]
    refine hK2 _ _ ?_
    try clear hK2 K2
    refine SX.seq_k fun K6 hK6 => ?_
    refine SX.region_d [some 4] rfl (fun ops hops => ?_)
    unfold Dsts at hops
    simp (maxSteps:=1000000)(dsimp:=false)(disch:=omega) only [go_sem, Φa, hP, hops]
    refine hK6 _ _ ?_
    try clear hK6 K6
    refine SX.ret ?_
    simp only [andThen_normal, andThen_ret, andThen_exit, inBlk_normal, inBlk_ret, inBlk_exit, Nat.reduceEqDiff, if_true, if_false, ↓reduceIte, retQ_ret]
    try simp only [res0, res1, res2, res3, stK_e, go_sem, Φa, hP]
    obtain rfl : on = false := hc5
    exact ⟨_, _, Less.refl _, rfl, rfl, rfl⟩
set_option maxHeartbeats 1000000 in
set_option maxRecDepth 100000 in
theorem w0_spec {Γ : Ctx} (hP : Γ.P = Tryd.prog) {L : Hp} {x : Rc} (ho : OkR x) (hc : x.code ≤ 3) :
    SCall Γ 58 #[(.agg x.cells.toArray)] L (fun v L' => v = .string (wordAt x 0) ∧ L' = L) := by
  have hcd := ho.code
  have had := ho.ad
  have hda := ho.data
  have hpo := ho.port
  have hmd := ho.md
  have code_nat : x.code = ((x.code.toNat : Nat) : Int) := by omega
  have ad_nat : x.ad = ((x.ad.toNat : Nat) : Int) := by omega
  have data_nat : x.data = ((x.data.toNat : Nat) : Int) := by omega
  have port_nat : x.port = ((x.port.toNat : Nat) : Int) := by omega
  refine SCall.enter (n := 8) (res1 2) (hP ▸ Tryd.func58) rfl rfl (by simp) (res1_ok rfl) ?_
  refine SX.seq_k fun K1 hK1 => ?_
  refine SX.region_d [some 1, some 2] rfl (fun ops hops => ?_)
  unfold Dsts at hops
  simp (maxSteps:=1000000)(dsimp:=false)(disch:=omega) only [go_sem, Φa, hP, hops]
  intro b0
  try with_reducible refine stI ?_
  try simp (maxSteps:=1000000)(dsimp:=false)(disch:=omega) only [go_sem, Φa, hP, hops]
  refine hK1 _ _ ?_
  try clear hK1 K1
  refine SX.seq_k fun K2 hK2 => ?_
  refine SX.region_d [some 3, some 4, some 5, some 6, some 7, some 2] rfl (fun ops hops => ?_)
  unfold Dsts at hops
  simp (maxSteps:=1000000)(dsimp:=false)(disch:=omega) only [go_sem, Φa, hP, hops]
  refine ⟨_, Cell.at 0 rfl (show (Rc.cells _)[0]? = _ from rfl), ?_⟩
  try with_reducible refine stI ?_
  try simp (maxSteps:=1000000)(dsimp:=false)(disch:=omega) only [go_sem, Φa, hP, hops]
  try rw [w64 (by omega)]
  rw [show (Value.int .i64 x.code) = .int .i64 ((x.code.toNat : Nat) : Int) by rw [← code_nat]]
  refine SCall.mono (Hex_spec (n := x.code.toNat) (m := 1) hP (by decide) (by decide) (by omega)) ?_
  rintro v_ L_ ⟨hv_, hL_⟩
  rw [hv_, hL_]
  clear hv_ hL_ v_ L_
  try with_reducible refine stI ?_
  try simp (maxSteps:=1000000)(dsimp:=false)(disch:=omega) only [go_sem, Φa, hP, hops]
  refine And.intro (by rw [hexS_size]; decide) ?_
  try with_reducible refine stI ?_
  try simp (maxSteps:=1000000)(dsimp:=false)(disch:=omega) only [go_sem, Φa, hP, hops]
  refine hK2 _ _ ?_
  try clear hK2 K2
  refine SX.ret ?_
  simp only [andThen_normal, andThen_ret, andThen_exit, inBlk_normal, inBlk_ret, inBlk_exit, Nat.reduceEqDiff, if_true, if_false, ↓reduceIte, retQ_ret]
  try simp only [res0, res1, res2, res3, stK_e, go_sem, Φa, hP]
  exact ⟨_, _, Less.drop _ _, rfl, rfl, rfl⟩
set_option maxHeartbeats 1000000 in
set_option maxRecDepth 100000 in
theorem w1_spec {Γ : Ctx} (hP : Γ.P = Tryd.prog) {L : Hp} {x : Rc} (ho : OkR x) :
    SCall Γ 60 #[(.agg x.cells.toArray)] L (fun v L' => v = .string (wordAt x 1) ∧ L' = L) := by
  have hcd := ho.code
  have had := ho.ad
  have hda := ho.data
  have hpo := ho.port
  have hmd := ho.md
  have code_nat : x.code = ((x.code.toNat : Nat) : Int) := by omega
  have ad_nat : x.ad = ((x.ad.toNat : Nat) : Int) := by omega
  have data_nat : x.data = ((x.data.toNat : Nat) : Int) := by omega
  have port_nat : x.port = ((x.port.toNat : Nat) : Int) := by omega
  refine SCall.enter (n := 7) (res1 2) (hP ▸ Tryd.func60) rfl rfl (by simp) (res1_ok rfl) ?_
  refine SX.seq_k fun K1 hK1 => ?_
  refine SX.region_d [some 1, some 2] rfl (fun ops hops => ?_)
  unfold Dsts at hops
  simp (maxSteps:=1000000)(dsimp:=false)(disch:=omega) only [go_sem, Φa, hP, hops]
  intro b0
  try with_reducible refine stI ?_
  try simp (maxSteps:=1000000)(dsimp:=false)(disch:=omega) only [go_sem, Φa, hP, hops]
  refine hK1 _ _ ?_
  try clear hK1 K1
  refine SX.seq_k fun K2 hK2 => ?_
  refine SX.region_d [some 3, some 4, some 5, some 6, some 2] rfl (fun ops hops => ?_)
  unfold Dsts at hops
  simp (maxSteps:=1000000)(dsimp:=false)(disch:=omega) only [go_sem, Φa, hP, hops]
  refine ⟨_, Cell.at 0 rfl (show (Rc.cells _)[1]? = _ from rfl), ?_⟩
  try with_reducible refine stI ?_
  try simp (maxSteps:=1000000)(dsimp:=false)(disch:=omega) only [go_sem, Φa, hP, hops]
  try rw [w64 (by omega)]
  rw [show (Value.int .i64 x.ad) = .int .i64 ((x.ad.toNat : Nat) : Int) by rw [← ad_nat]]
  refine SCall.mono (Hex_spec (n := x.ad.toNat) (m := 4) hP (by decide) (by decide) (by omega)) ?_
  rintro v_ L_ ⟨hv_, hL_⟩
  rw [hv_, hL_]
  clear hv_ hL_ v_ L_
  try with_reducible refine stI ?_
  try simp (maxSteps:=1000000)(dsimp:=false)(disch:=omega) only [go_sem, Φa, hP, hops]
  refine hK2 _ _ ?_
  try clear hK2 K2
  refine SX.ret ?_
  simp only [andThen_normal, andThen_ret, andThen_exit, inBlk_normal, inBlk_ret, inBlk_exit, Nat.reduceEqDiff, if_true, if_false, ↓reduceIte, retQ_ret]
  try simp only [res0, res1, res2, res3, stK_e, go_sem, Φa, hP]
  exact ⟨_, _, Less.drop _ _, rfl, rfl, rfl⟩
set_option maxHeartbeats 1000000 in
set_option maxRecDepth 100000 in
theorem w2_spec {Γ : Ctx} (hP : Γ.P = Tryd.prog) {L : Hp} {x : Rc} (ho : OkR x) :
    SCall Γ 61 #[(.agg x.cells.toArray)] L (fun v L' => v = .string (wordAt x 2) ∧ L' = L) := by
  have hcd := ho.code
  have had := ho.ad
  have hda := ho.data
  have hpo := ho.port
  have hmd := ho.md
  have code_nat : x.code = ((x.code.toNat : Nat) : Int) := by omega
  have ad_nat : x.ad = ((x.ad.toNat : Nat) : Int) := by omega
  have data_nat : x.data = ((x.data.toNat : Nat) : Int) := by omega
  have port_nat : x.port = ((x.port.toNat : Nat) : Int) := by omega
  refine SCall.enter (n := 7) (res1 2) (hP ▸ Tryd.func61) rfl rfl (by simp) (res1_ok rfl) ?_
  refine SX.seq_k fun K1 hK1 => ?_
  refine SX.region_d [some 1, some 2] rfl (fun ops hops => ?_)
  unfold Dsts at hops
  simp (maxSteps:=1000000)(dsimp:=false)(disch:=omega) only [go_sem, Φa, hP, hops]
  intro b0
  try with_reducible refine stI ?_
  try simp (maxSteps:=1000000)(dsimp:=false)(disch:=omega) only [go_sem, Φa, hP, hops]
  refine hK1 _ _ ?_
  try clear hK1 K1
  refine SX.seq_k fun K2 hK2 => ?_
  refine SX.region_d [some 3, some 4, some 5, some 6, some 2] rfl (fun ops hops => ?_)
  unfold Dsts at hops
  simp (maxSteps:=1000000)(dsimp:=false)(disch:=omega) only [go_sem, Φa, hP, hops]
  refine ⟨_, Cell.at 0 rfl (show (Rc.cells _)[2]? = _ from rfl), ?_⟩
  try with_reducible refine stI ?_
  try simp (maxSteps:=1000000)(dsimp:=false)(disch:=omega) only [go_sem, Φa, hP, hops]
  try rw [w64 (by omega)]
  rw [show (Value.int .i64 x.data) = .int .i64 ((x.data.toNat : Nat) : Int) by rw [← data_nat]]
  refine SCall.mono (Hex_spec (n := x.data.toNat) (m := 2) hP (by decide) (by decide) (by omega)) ?_
  rintro v_ L_ ⟨hv_, hL_⟩
  rw [hv_, hL_]
  clear hv_ hL_ v_ L_
  try with_reducible refine stI ?_
  try simp (maxSteps:=1000000)(dsimp:=false)(disch:=omega) only [go_sem, Φa, hP, hops]
  refine hK2 _ _ ?_
  try clear hK2 K2
  refine SX.ret ?_
  simp only [andThen_normal, andThen_ret, andThen_exit, inBlk_normal, inBlk_ret, inBlk_exit, Nat.reduceEqDiff, if_true, if_false, ↓reduceIte, retQ_ret]
  try simp only [res0, res1, res2, res3, stK_e, go_sem, Φa, hP]
  exact ⟨_, _, Less.drop _ _, rfl, rfl, rfl⟩
set_option maxHeartbeats 1000000 in
set_option maxRecDepth 100000 in
theorem w3_spec {Γ : Ctx} (hP : Γ.P = Tryd.prog) {L : Hp} {x : Rc} (ho : OkR x) :
    SCall Γ 62 #[(.agg x.cells.toArray)] L (fun v L' => v = .string (wordAt x 3) ∧ L' = L) := by
  have hcd := ho.code
  have had := ho.ad
  have hda := ho.data
  have hpo := ho.port
  have hmd := ho.md
  have code_nat : x.code = ((x.code.toNat : Nat) : Int) := by omega
  have ad_nat : x.ad = ((x.ad.toNat : Nat) : Int) := by omega
  have data_nat : x.data = ((x.data.toNat : Nat) : Int) := by omega
  have port_nat : x.port = ((x.port.toNat : Nat) : Int) := by omega
  refine SCall.enter (n := 6) (res1 2) (hP ▸ Tryd.func62) rfl rfl (by simp) (res1_ok rfl) ?_
  refine SX.seq_k fun K1 hK1 => ?_
  refine SX.region_d [some 1, some 2] rfl (fun ops hops => ?_)
  unfold Dsts at hops
  simp (maxSteps:=1000000)(dsimp:=false)(disch:=omega) only [go_sem, Φa, hP, hops]
  intro b0
  try with_reducible refine stI ?_
  try simp (maxSteps:=1000000)(dsimp:=false)(disch:=omega) only [go_sem, Φa, hP, hops]
  refine hK1 _ _ ?_
  try clear hK1 K1
  refine SX.seq_k fun K2 hK2 => ?_
  refine SX.region_d [some 3, some 4, some 5, some 2] rfl (fun ops hops => ?_)
  unfold Dsts at hops
  simp (maxSteps:=1000000)(dsimp:=false)(disch:=omega) only [go_sem, Φa, hP, hops]
  refine ⟨_, Cell.at 0 rfl (show (Rc.cells _)[3]? = _ from rfl), ?_⟩
  try with_reducible refine stI ?_
  try simp (maxSteps:=1000000)(dsimp:=false)(disch:=omega) only [go_sem, Φa, hP, hops]
  refine SCall.mono (when_spec hP (on := x.rd) (s := ⟨#[114]⟩)) ?_
  rintro v_ L_ ⟨hv_, hL_⟩
  rw [hv_, hL_]
  clear hv_ hL_ v_ L_
  try with_reducible refine stI ?_
  try simp (maxSteps:=1000000)(dsimp:=false)(disch:=omega) only [go_sem, Φa, hP, hops]
  refine hK2 _ _ ?_
  try clear hK2 K2
  refine SX.ret ?_
  simp only [andThen_normal, andThen_ret, andThen_exit, inBlk_normal, inBlk_ret, inBlk_exit, Nat.reduceEqDiff, if_true, if_false, ↓reduceIte, retQ_ret]
  try simp only [res0, res1, res2, res3, stK_e, go_sem, Φa, hP]
  exact ⟨_, _, Less.drop _ _, rfl, rfl, rfl⟩
set_option maxHeartbeats 1000000 in
set_option maxRecDepth 100000 in
theorem w4_spec {Γ : Ctx} (hP : Γ.P = Tryd.prog) {L : Hp} {x : Rc} (ho : OkR x) :
    SCall Γ 64 #[(.agg x.cells.toArray)] L (fun v L' => v = .string (wordAt x 4) ∧ L' = L) := by
  have hcd := ho.code
  have had := ho.ad
  have hda := ho.data
  have hpo := ho.port
  have hmd := ho.md
  have code_nat : x.code = ((x.code.toNat : Nat) : Int) := by omega
  have ad_nat : x.ad = ((x.ad.toNat : Nat) : Int) := by omega
  have data_nat : x.data = ((x.data.toNat : Nat) : Int) := by omega
  have port_nat : x.port = ((x.port.toNat : Nat) : Int) := by omega
  refine SCall.enter (n := 6) (res1 2) (hP ▸ Tryd.func64) rfl rfl (by simp) (res1_ok rfl) ?_
  refine SX.seq_k fun K1 hK1 => ?_
  refine SX.region_d [some 1, some 2] rfl (fun ops hops => ?_)
  unfold Dsts at hops
  simp (maxSteps:=1000000)(dsimp:=false)(disch:=omega) only [go_sem, Φa, hP, hops]
  intro b0
  try with_reducible refine stI ?_
  try simp (maxSteps:=1000000)(dsimp:=false)(disch:=omega) only [go_sem, Φa, hP, hops]
  refine hK1 _ _ ?_
  try clear hK1 K1
  refine SX.seq_k fun K2 hK2 => ?_
  refine SX.region_d [some 3, some 4, some 5, some 2] rfl (fun ops hops => ?_)
  unfold Dsts at hops
  simp (maxSteps:=1000000)(dsimp:=false)(disch:=omega) only [go_sem, Φa, hP, hops]
  refine ⟨_, Cell.at 0 rfl (show (Rc.cells _)[4]? = _ from rfl), ?_⟩
  try with_reducible refine stI ?_
  try simp (maxSteps:=1000000)(dsimp:=false)(disch:=omega) only [go_sem, Φa, hP, hops]
  refine SCall.mono (when_spec hP (on := x.wr) (s := ⟨#[119]⟩)) ?_
  rintro v_ L_ ⟨hv_, hL_⟩
  rw [hv_, hL_]
  clear hv_ hL_ v_ L_
  try with_reducible refine stI ?_
  try simp (maxSteps:=1000000)(dsimp:=false)(disch:=omega) only [go_sem, Φa, hP, hops]
  refine hK2 _ _ ?_
  try clear hK2 K2
  refine SX.ret ?_
  simp only [andThen_normal, andThen_ret, andThen_exit, inBlk_normal, inBlk_ret, inBlk_exit, Nat.reduceEqDiff, if_true, if_false, ↓reduceIte, retQ_ret]
  try simp only [res0, res1, res2, res3, stK_e, go_sem, Φa, hP]
  exact ⟨_, _, Less.drop _ _, rfl, rfl, rfl⟩
set_option maxHeartbeats 1000000 in
set_option maxRecDepth 100000 in
theorem w6_spec {Γ : Ctx} (hP : Γ.P = Tryd.prog) {L : Hp} {x : Rc} (ho : OkR x) :
    SCall Γ 66 #[(.agg x.cells.toArray)] L (fun v L' => v = .string (wordAt x 6) ∧ L' = L) := by
  have hcd := ho.code
  have had := ho.ad
  have hda := ho.data
  have hpo := ho.port
  have hmd := ho.md
  have code_nat : x.code = ((x.code.toNat : Nat) : Int) := by omega
  have ad_nat : x.ad = ((x.ad.toNat : Nat) : Int) := by omega
  have data_nat : x.data = ((x.data.toNat : Nat) : Int) := by omega
  have port_nat : x.port = ((x.port.toNat : Nat) : Int) := by omega
  refine SCall.enter (n := 6) (res1 2) (hP ▸ Tryd.func66) rfl rfl (by simp) (res1_ok rfl) ?_
  refine SX.seq_k fun K1 hK1 => ?_
  refine SX.region_d [some 1, some 2] rfl (fun ops hops => ?_)
  unfold Dsts at hops
  simp (maxSteps:=1000000)(dsimp:=false)(disch:=omega) only [go_sem, Φa, hP, hops]
  intro b0
  try with_reducible refine stI ?_
  try simp (maxSteps:=1000000)(dsimp:=false)(disch:=omega) only [go_sem, Φa, hP, hops]
  refine hK1 _ _ ?_
  try clear hK1 K1
  refine SX.seq_k fun K2 hK2 => ?_
  refine SX.region_d [some 3, some 4, some 5, some 2] rfl (fun ops hops => ?_)
  unfold Dsts at hops
  simp (maxSteps:=1000000)(dsimp:=false)(disch:=omega) only [go_sem, Φa, hP, hops]
  refine ⟨_, Cell.at 0 rfl (show (Rc.cells _)[6]? = _ from rfl), ?_⟩
  try with_reducible refine stI ?_
  try simp (maxSteps:=1000000)(dsimp:=false)(disch:=omega) only [go_sem, Φa, hP, hops]
  refine SCall.mono (when_spec hP (on := x.q) (s := ⟨#[113]⟩)) ?_
  rintro v_ L_ ⟨hv_, hL_⟩
  rw [hv_, hL_]
  clear hv_ hL_ v_ L_
  try with_reducible refine stI ?_
  try simp (maxSteps:=1000000)(dsimp:=false)(disch:=omega) only [go_sem, Φa, hP, hops]
  refine hK2 _ _ ?_
  try clear hK2 K2
  refine SX.ret ?_
  simp only [andThen_normal, andThen_ret, andThen_exit, inBlk_normal, inBlk_ret, inBlk_exit, Nat.reduceEqDiff, if_true, if_false, ↓reduceIte, retQ_ret]
  try simp only [res0, res1, res2, res3, stK_e, go_sem, Φa, hP]
  exact ⟨_, _, Less.drop _ _, rfl, rfl, rfl⟩
set_option maxHeartbeats 1000000 in
set_option maxRecDepth 100000 in
theorem w5_spec {Γ : Ctx} (hP : Γ.P = Tryd.prog) {L : Hp} {x : Rc} (ho : OkR x) (hpp : x.port ≤ 7) :
    SCall Γ 65 #[(.agg x.cells.toArray)] L (fun v L' => v = .string (wordAt x 5) ∧ L' = L) := by
  have hcd := ho.code
  have had := ho.ad
  have hda := ho.data
  have hpo := ho.port
  have hmd := ho.md
  have code_nat : x.code = ((x.code.toNat : Nat) : Int) := by omega
  have ad_nat : x.ad = ((x.ad.toNat : Nat) : Int) := by omega
  have data_nat : x.data = ((x.data.toNat : Nat) : Int) := by omega
  have port_nat : x.port = ((x.port.toNat : Nat) : Int) := by omega
  refine SCall.enter (n := 12) (res1 2) (hP ▸ Tryd.func65) rfl rfl (by simp) (res1_ok rfl) ?_
  refine SX.seq_k fun K1 hK1 => ?_
  refine SX.region_d [some 1, some 2] rfl (fun ops hops => ?_)
  unfold Dsts at hops
  simp (maxSteps:=1000000)(dsimp:=false)(disch:=omega) only [go_sem, Φa, hP, hops]
  intro b0
  try with_reducible refine stI ?_
  try simp (maxSteps:=1000000)(dsimp:=false)(disch:=omega) only [go_sem, Φa, hP, hops]
  refine hK1 _ _ ?_
  try clear hK1 K1
  refine SX.seq_k fun K2 hK2 => ?_
  refine SX.quiet_d (hP ▸ T.mixed) (by kernel_rfl) [some 3, some 4, some 5, some 6, some 7, some 8, some 9, some 10, some 11, some 2] rfl (fun ops hops => ?_)
  unfold Dsts at hops
  simp (maxSteps:=1000000)(dsimp:=false)(disch:=omega) only [go_sem, Φa, hP, hops]
  refine ⟨_, Cell.at 0 rfl (show (Rc.cells _)[5]? = _ from rfl), ?_⟩
  try with_reducible refine stI ?_
  try simp (maxSteps:=1000000)(dsimp:=false)(disch:=omega) only [go_sem, Φa, hP, hops]
  refine ⟨_, Cell.at 0 rfl (show (Rc.cells _)[5]? = _ from rfl), ?_⟩
  try with_reducible refine stI ?_
  try simp (maxSteps:=1000000)(dsimp:=false)(disch:=omega) only [go_sem, Φa, hP, hops]
  try rw [w64 (by omega)]
  rw [show (Value.int .i64 x.port) = .int .i64 ((x.port.toNat : Nat) : Int) by rw [← port_nat]]
  refine ⟨_, Hex_spec (n := x.port.toNat) (m := 1) hP (by decide) (by decide) (by omega), ?_⟩
  try with_reducible refine stI ?_
  try simp (maxSteps:=1000000)(dsimp:=false)(disch:=omega) only [go_sem, Φa, hP, hops]
  refine And.intro (by rw [hexS_size]; decide) ?_
  try with_reducible refine stI ?_
  try simp (maxSteps:=1000000)(dsimp:=false)(disch:=omega) only [go_sem, Φa, hP, hops]
  refine ⟨_, when_spec hP (on := !decide (x.port = 0)) (s := ⟨#[110]⟩ ++ hexS x.port.toNat 1), ?_⟩
  try with_reducible refine stI ?_
  try simp (maxSteps:=1000000)(dsimp:=false)(disch:=omega) only [go_sem, Φa, hP, hops]
  refine hK2 _ _ ?_
  try clear hK2 K2
  refine SX.ret ?_
  simp only [andThen_normal, andThen_ret, andThen_exit, inBlk_normal, inBlk_ret, inBlk_exit, Nat.reduceEqDiff, if_true, if_false, ↓reduceIte, retQ_ret]
  try simp only [res0, res1, res2, res3, stK_e, go_sem, Φa, hP]
  exact ⟨_, _, Less.drop _ _, rfl, rfl, rfl⟩
set_option maxHeartbeats 1000000 in
set_option maxRecDepth 100000 in
theorem w7_spec {Γ : Ctx} (hP : Γ.P = Tryd.prog) {L : Hp} {x : Rc} (ho : OkR x) (hM : MD Γ) :
    SCall Γ 67 #[(.agg x.cells.toArray)] L (fun v L' => v = .string (wordAt x 7) ∧ L' = L) := by
  have hcd := ho.code
  have had := ho.ad
  have hda := ho.data
  have hpo := ho.port
  have hmd := ho.md
  have code_nat : x.code = ((x.code.toNat : Nat) : Int) := by omega
  have ad_nat : x.ad = ((x.ad.toNat : Nat) : Int) := by omega
  have data_nat : x.data = ((x.data.toNat : Nat) : Int) := by omega
  have port_nat : x.port = ((x.port.toNat : Nat) : Int) := by omega
  refine SCall.enter (n := 8) (res1 2) (hP ▸ Tryd.func67) rfl rfl (by simp) (res1_ok rfl) ?_
  refine SX.seq_k fun K1 hK1 => ?_
  refine SX.region_d [some 1, some 2] rfl (fun ops hops => ?_)
  unfold Dsts at hops
  simp (maxSteps:=1000000)(dsimp:=false)(disch:=omega) only [go_sem, Φa, hP, hops]
  intro b0
  try with_reducible refine stI ?_
  try simp (maxSteps:=1000000)(dsimp:=false)(disch:=omega) only [go_sem, Φa, hP, hops]
  refine hK1 _ _ ?_
  try clear hK1 K1
  refine SX.seq_k fun K2 hK2 => ?_
  refine SX.region_d [some 3, some 4, some 5, some 6, some 7, some 2] rfl (fun ops hops => ?_)
  unfold Dsts at hops
  simp (maxSteps:=1000000)(dsimp:=false)(disch:=omega) only [go_sem, Φa, hP, hops]
  refine ⟨_, Cell.at 0 rfl (show (Rc.cells _)[7]? = _ from rfl), ?_⟩
  try with_reducible refine stI ?_
  try simp (maxSteps:=1000000)(dsimp:=false)(disch:=omega) only [go_sem, Φa, hP, hops]
  rw [and3 hmd]
  try with_reducible refine stI ?_
  try simp (maxSteps:=1000000)(dsimp:=false)(disch:=omega) only [go_sem, Φa, hP, hops]
  refine ⟨_, hM _ _ (Nat.mod_lt _ (by decide)), ?_⟩
  try with_reducible refine stI ?_
  try simp (maxSteps:=1000000)(dsimp:=false)(disch:=omega) only [go_sem, Φa, hP, hops]
  refine hK2 _ _ ?_
  try clear hK2 K2
  refine SX.ret ?_
  simp only [andThen_normal, andThen_ret, andThen_exit, inBlk_normal, inBlk_ret, inBlk_exit, Nat.reduceEqDiff, if_true, if_false, ↓reduceIte, retQ_ret]
  try simp only [res0, res1, res2, res3, stK_e, go_sem, Φa, hP]
  exact ⟨_, _, Less.drop _ _, rfl, rfl, rfl⟩

def wordsC : List Value := [.func (.func 58) #[] #[], .func (.func 60) #[] #[], .func (.func 61) #[] #[], .func (.func 62) #[] #[], .func (.func 64) #[] #[], .func (.func 65) #[] #[], .func (.func 66) #[] #[], .func (.func 67) #[] #[]]
theorem wordsC_at {i : Nat} (h : i < 8) : wordsC[i]? = some (.func (.func (kAt i)) #[] #[]) := by
  match i, h with
  | 0, _ | 1, _ | 2, _ | 3, _ | 4, _ | 5, _ | 6, _ | 7, _ => rfl
theorem callable_kAt {Γ : Ctx} (hP : Γ.P = Tryd.prog) {i : Nat} (h : i < 8) : callable Γ.P (kAt i) = true := by
  match i, h with
  | 0, _ => exact hP ▸ T.callable_58
  | 1, _ => exact hP ▸ T.callable_60
  | 2, _ => exact hP ▸ T.callable_61
  | 3, _ => exact hP ▸ T.callable_62
  | 4, _ => exact hP ▸ T.callable_64
  | 5, _ => exact hP ▸ T.callable_65
  | 6, _ => exact hP ▸ T.callable_66
  | 7, _ => exact hP ▸ T.callable_67
theorem word_spec {Γ : Ctx} (hP : Γ.P = Tryd.prog) {L : Hp} {x : Rc} (ho : OkR x) (hm : mayB x = true) (hM : MD Γ) {i : Nat} (h : i < 8) : SCall Γ (kAt i) #[.agg x.cells.toArray] L (fun v L' => v = .string (wordAt x i) ∧ L' = L) := by
  simp only [mayB, Bool.and_eq_true, decide_eq_true_eq] at hm
  match i, h with
  | 0, _ => exact w0_spec hP ho hm.1.1.1
  | 1, _ => exact w1_spec hP ho
  | 2, _ => exact w2_spec hP ho
  | 3, _ => exact w3_spec hP ho
  | 4, _ => exact w4_spec hP ho
  | 5, _ => exact w5_spec hP ho hm.1.1.2
  | 6, _ => exact w6_spec hP ho
  | 7, _ => exact w7_spec hP ho hM
def accW (x : Rc) (i : Nat) : List ByteArray := ((List.range i).map (wordAt x)).filter (fun s => !decide (s = ⟨#[]⟩))
theorem accW_yes {x : Rc} {i : Nat} (h : ¬ wordAt x i = ⟨#[]⟩) : accW x (i + 1) = accW x i ++ [wordAt x i] := by
  unfold accW
  rw [List.range_succ, List.map_append, List.filter_append]
  simp [h]
theorem accW_no {x : Rc} {i : Nat} (h : wordAt x i = ⟨#[]⟩) : accW x (i + 1) = accW x i := by
  unfold accW
  rw [List.range_succ, List.map_append, List.filter_append]
  simp [h]
theorem accW_len (x : Rc) (i : Nat) : (accW x i).length ≤ i := by
  unfold accW
  exact Nat.le_trans (List.length_filter_le _ _) (by rw [List.length_map, List.length_range]; exact Nat.le_refl _)
theorem mdL_size (k : Nat) : (mdL.getD k ⟨#[]⟩).size ≤ 5 := by
  match k with
  | 0 | 1 | 2 | 3 => decide
  | k + 4 => exact Nat.zero_le _
theorem bapp_size (a b : ByteArray) : (a ++ b).size = a.size + b.size := ByteArray.size_append
theorem when_size (b : Bool) (s : ByteArray) : (whenS b s).size ≤ s.size := by unfold whenS; split; exact Nat.le_refl _; exact Nat.zero_le _
theorem wordAt_size (x : Rc) (i : Nat) : (wordAt x i).size ≤ 5 := by
  match i with
  | 0 => show (_ ++ _ : ByteArray).size ≤ 5; rw [bapp_size, hexS_size]; decide
  | 1 => show (hexS _ _).size ≤ 5; rw [hexS_size]; decide
  | 2 => show (hexS _ _).size ≤ 5; rw [hexS_size]; decide
  | 3 => exact Nat.le_trans (when_size _ _) (by decide)
  | 4 => exact Nat.le_trans (when_size _ _) (by decide)
  | 5 => exact Nat.le_trans (when_size _ _) (by rw [bapp_size, hexS_size]; decide)
  | 6 => exact Nat.le_trans (when_size _ _) (by decide)
  | n + 7 => exact mdL_size _
theorem accW_mem {x : Rc} {i : Nat} {s : ByteArray} (h : s ∈ accW x i) : s.size ≤ 5 := by
  unfold accW at h
  obtain ⟨j, _, rfl⟩ := List.mem_map.1 (List.mem_filter.1 h).1
  exact wordAt_size x j
theorem joinTail_len {sep : List UInt8} : ∀ {r : List (List UInt8)}, (∀ y ∈ r, y.length ≤ 5) → (Lib.joinTail sep r).length ≤ r.length * (sep.length + 5)
  | [], _ => Nat.zero_le _
  | y :: r, h => by
    have h1 := joinTail_len (sep := sep) (r := r) (fun z hz => h z (List.mem_cons_of_mem _ hz))
    have h2 := h y (List.mem_cons_self ..)
    simp only [Lib.joinTail, List.map_cons, List.flatten_cons, List.length_append, List.length_cons] at h1 ⊢
    rw [Nat.succ_mul]
    omega
theorem join_len {ss : List ByteArray} {sep : ByteArray} (h : ∀ s ∈ ss, s.size ≤ 5) : (Lib.join (ss.map (·.data.toList)) sep.data.toList).length ≤ 5 + ss.length * (sep.size + 5) := by
  match ss, h with
  | [], _ => rw [List.map_nil, Lib.join_nil]; exact Nat.zero_le _
  | s :: r, h =>
    rw [List.map_cons, Lib.join_cons, List.length_append]
    have h1 := h s (List.mem_cons_self ..)
    have h2 := joinTail_len (sep := sep.data.toList) (r := r.map (·.data.toList)) (fun y hy => by
      obtain ⟨z, hz, rfl⟩ := List.mem_map.1 hy
      exact h z (List.mem_cons_of_mem _ hz))
    have h4 : sep.data.toList.length = sep.size := Array.length_toList
    have h3 : s.data.toList.length ≤ 5 := by rw [Array.length_toList]; exact h1
    rw [List.length_map, h4] at h2
    rw [List.length_cons, Nat.succ_mul]
    omega
def lineS (x : Rc) : ByteArray := joinS (accW x 8) ⟨#[32]⟩
theorem lineS_size (x : Rc) : (lineS x).size ≤ 53 := by
  have h := join_len (ss := accW x 8) (sep := ⟨#[32]⟩) (fun s hs => accW_mem hs)
  have h1 := accW_len x 8
  have h2 : (⟨#[32]⟩ : ByteArray).size = 1 := rfl
  rw [h2] at h
  show (Lib.join _ _).toArray.size ≤ 53
  rw [List.size_toArray]
  have : (accW x 8).length * (1 + 5) ≤ 8 * 6 := Nat.mul_le_mul h1 (Nat.le_refl _)
  omega
theorem less_ins1 {a : Slot} {L : Hp} : Less (a :: L) (a :: none :: L) := (Less.none _).trans (Less.perm (List.Perm.swap _ _ _))
set_option maxHeartbeats 1000000 in
set_option maxRecDepth 100000 in
theorem words_spec {Γ : Ctx} (hP : Γ.P = Tryd.prog) {L : Hp}  :
    SCall Γ 47 #[] L (fun v L' => ∃ g, v = .slice (some ⟨g, 0, none⟩) 8 8 ∧ L' = some (g, .cells wordsC.toArray 82 (0, 0)) :: L) := by
  refine SCall.enter (n := 10) (res1 0) (hP ▸ Tryd.func47) rfl rfl (by simp) (res1_ok rfl) ?_
  refine SX.seq_k fun K1 hK1 => ?_
  refine SX.region_d [some 0] rfl (fun ops hops => ?_)
  unfold Dsts at hops
  simp (maxSteps:=1000000)(dsimp:=false)(disch:=omega) only [go_sem, Φa, hP, hops]
  refine hK1 _ _ ?_
  try clear hK1 K1
  refine SX.seq_k fun K2 hK2 => ?_
  refine SX.region_d [some 1, some 2, some 3, some 4, some 5, some 6, some 7, some 8, some 9, some 0] rfl (fun ops hops => ?_)
  unfold Dsts at hops
  simp (maxSteps:=1000000)(dsimp:=false)(disch:=omega) only [go_sem, Φa, hP, hops]
  intro g1
  try with_reducible refine stI ?_
  try simp (maxSteps:=1000000)(dsimp:=false)(disch:=omega) only [go_sem, Φa, hP, hops]
  refine hK2 _ _ ?_
  try clear hK2 K2
  refine SX.ret ?_
  simp only [andThen_normal, andThen_ret, andThen_exit, inBlk_normal, inBlk_ret, inBlk_exit, Nat.reduceEqDiff, if_true, if_false, ↓reduceIte, retQ_ret]
  try simp only [res0, res1, res2, res3, stK_e, go_sem, Φa, hP]
  exact ⟨_, _, Less.refl _, rfl, g1, rfl, rfl⟩
set_option maxHeartbeats 1000000 in
set_option maxRecDepth 100000 in
theorem line_spec {Γ : Ctx} (hP : Γ.P = Tryd.prog) {L : Hp} {x : Rc} (ho : OkR x) (hm : mayB x = true) (hM : MD Γ) :
    SCall Γ 29 #[(.agg x.cells.toArray)] L (fun v L' => v = .string (lineS x) ∧ L' = L) := by
  refine SCall.enter (n := 26) (res1 2) (hP ▸ Tryd.func29) rfl rfl (by simp) (res1_ok rfl) ?_
  refine SX.seq_k fun K1 hK1 => ?_
  refine SX.region_d [some 1, some 2] rfl (fun ops hops => ?_)
  unfold Dsts at hops
  simp (maxSteps:=1000000)(dsimp:=false)(disch:=omega) only [go_sem, Φa, hP, hops]
  intro b0
  try with_reducible refine stI ?_
  try simp (maxSteps:=1000000)(dsimp:=false)(disch:=omega) only [go_sem, Φa, hP, hops]
  refine hK1 _ _ ?_
  try clear hK1 K1
  refine SX.seq_k fun K2 hK2 => ?_
  refine SX.region_d [some 3] rfl (fun ops hops => ?_)
  unfold Dsts at hops
  simp (maxSteps:=1000000)(dsimp:=false)(disch:=omega) only [go_sem, Φa, hP, hops]
  refine hK2 _ _ ?_
  try clear hK2 K2
  refine SX.seq_k fun K3 hK3 => ?_
  refine SX.seq_k fun K4 hK4 => ?_
  refine SX.less less_ins1 ?_
  refine SX.region_d [some 7, some 8, some 9] rfl (fun ops hops => ?_)
  unfold Dsts at hops
  simp (maxSteps:=1000000)(dsimp:=false)(disch:=omega) only [go_sem, Φa, hP, hops]
  refine SCall.mono (words_spec hP) ?_
  rintro v_ L_ ⟨g, rfl, rfl⟩
  try with_reducible refine stI ?_
  try simp (maxSteps:=1000000)(dsimp:=false)(disch:=omega) only [go_sem, Φa, hP, hops]
  refine hK4 _ _ ?_
  try clear hK4 K4
  refine SX.block ?_
  refine SX.live [1, 3, 7, 8, 9] (fun T1 hT1 => ?_)
  simp only [forall_mem_cons', forall_mem_nil', go_sem, Φa, hP] at hT1
  obtain ⟨h1_1, h1_3, h1_7, h1_8, h1_9⟩ := hT1
  refine SX.loop_k (fun (ss : (Nat) × (Value) × (Slot)) T L' => (fun (i : Nat) (vo : Value) (so : Slot) => T 3 = vo ∧ T 9 = .int .i64 (i : Int) ∧ T 1 = T1 1 ∧ T 7 = T1 7 ∧ T 8 = T1 8 ∧ L' = some (g, .cells wordsC.toArray 82 (0, 0)) :: some (b0, .cells x.cells.toArray 46 (0, 0)) :: so :: L ∧ (i ≤ 8 ∧ RowL stV 9 1 vo (accW x i) so)) (ss.1) (ss.2.1) (ss.2.2)) (fun (ss : (Nat) × (Value) × (Slot)) => (fun (i : Nat) (vo : Value) (so : Slot) => 8 - i) (ss.1) (ss.2.1) (ss.2.2)) (0, .slice none 0 0, none) ?_ ?_
  · try dsimp only
    refine ⟨?_, ?_, ?_, ?_, ?_, ?_, ?_⟩
    · first | exact h1_3 | (rw [h1_3]; rfl) | (rw [h1_3]; simp; done)
    · first | exact h1_9 | (rw [h1_9]; rfl) | (rw [h1_9]; simp; done)
    · rfl
    · rfl
    · rfl
    · rfl
    · exact ⟨Nat.zero_le _, RowL.nil _ _ _⟩
  · intro ss T2 L2 hI K5 hK5
    obtain ⟨i, vo, so⟩ := ss
    try dsimp only at hI hK5
    simp only [h1_1, h1_7, h1_8] at hI hK5
    obtain ⟨h2_3, h2_9, h2_1, h2_7, h2_8, hL2, ⟨hi, hrow⟩⟩ := hI
    replace hL2 := hL2.symm
    subst hL2
    clear h1_1 h1_3 h1_7 h1_8 h1_9 T1
    refine SX.seq_k fun K6 hK6 => ?_
    refine SX.region_d [some 10] rfl (fun ops hops => ?_)
    unfold Dsts at hops
    simp (maxSteps:=1000000)(dsimp:=false)(disch:=omega) only [go_sem, Φa, hP, h2_3, h2_9, h2_1, h2_7, h2_8, hops]
    repeat' ((first | refine And.intro (by omega) ?_ | fail); try (with_reducible refine stI ?_); try simp (maxSteps:=1000000)(dsimp:=false)(disch:=omega) only [go_sem, Φa, hP, h2_3, h2_9, h2_1, h2_7, h2_8, hops])
    refine hK6 _ _ ?_
    try clear hK6 K6
    refine SX.seq_k fun K7 hK7 => ?_
    refine SX.cond_k fun X8 Y8 hX8 hY8 => ?_
    simp (maxSteps:=1000000)(dsimp:=false)(disch:=omega) only [go_sem, Φa, hP, h2_3, h2_9, h2_1, h2_7, h2_8, condVC]
    refine ⟨fun hc10 => hX8 ?_, fun hc10 => hY8 ?_⟩
    · clear hX8 hY8 X8 Y8
      refine SX.skip ?_
      try simp only [andThen_normal, andThen_ret, andThen_exit, inBlk_normal, inBlk_ret, inBlk_exit, Nat.reduceEqDiff, if_true, if_false, ↓reduceIte]
      refine hK7 _ _ ?_
      try clear hK7 K7
      refine SX.seq_k fun K9 hK9 => ?_
      refine SX.block ?_
      refine SX.seq_k fun K10 hK10 => ?_
      have hi8 : i < 8 := by omega
      have hal := accW_len x i
      refine SX.region_d [some 11, some 12, some 5, none] rfl (fun ops hops => ?_)
      unfold Dsts at hops
      simp (maxSteps:=1000000)(dsimp:=false)(disch:=omega) only [go_sem, Φa, hP, h2_3, h2_9, h2_1, h2_7, h2_8, hops]
      refine ⟨_, Cell.at 0 rfl (wordsC_at hi8), ?_⟩
      try with_reducible refine stI ?_
      try simp (maxSteps:=1000000)(dsimp:=false)(disch:=omega) only [go_sem, Φa, hP, h2_3, h2_9, h2_1, h2_7, h2_8, hops]
      intro b5
      try with_reducible refine stI ?_
      try simp (maxSteps:=1000000)(dsimp:=false)(disch:=omega) only [go_sem, Φa, hP, h2_3, h2_9, h2_1, h2_7, h2_8, hops]
      refine ⟨0, _, _, _, rfl, (by show 1 ≤ 1; decide), .inr (by decide), ?_⟩
      try with_reducible refine stI ?_
      try simp (maxSteps:=1000000)(dsimp:=false)(disch:=omega) only [go_sem, Φa, hP, h2_3, h2_9, h2_1, h2_7, h2_8, hops]
      refine hK10 _ _ ?_
      try clear hK10 K10
      refine SX.seq_k fun K11 hK11 => ?_
      refine SX.region_d [some 13, some 14, some 15, some 16, some 6] rfl (fun ops hops => ?_)
      unfold Dsts at hops
      simp (maxSteps:=1000000)(dsimp:=false)(disch:=omega) only [go_sem, Φa, hP, h2_3, h2_9, h2_1, h2_7, h2_8, hops]
      refine ⟨_, Cell.at 0 rfl rfl, ?_⟩
      try with_reducible refine stI ?_
      try simp (maxSteps:=1000000)(dsimp:=false)(disch:=omega) only [go_sem, Φa, hP, h2_3, h2_9, h2_1, h2_7, h2_8, hops]
      refine ⟨_, Cell.at 2 rfl (show (Rc.cells _)[0]? = _ from rfl), _, Cell.at 2 rfl (show (Rc.cells _)[1]? = _ from rfl), _, Cell.at 2 rfl (show (Rc.cells _)[2]? = _ from rfl), _, Cell.at 2 rfl (show (Rc.cells _)[3]? = _ from rfl), _, Cell.at 2 rfl (show (Rc.cells _)[4]? = _ from rfl), _, Cell.at 2 rfl (show (Rc.cells _)[5]? = _ from rfl), _, Cell.at 2 rfl (show (Rc.cells _)[6]? = _ from rfl), _, Cell.at 2 rfl (show (Rc.cells _)[7]? = _ from rfl), ?_⟩
      try with_reducible refine stI ?_
      try simp (maxSteps:=1000000)(dsimp:=false)(disch:=omega) only [go_sem, Φa, hP, h2_3, h2_9, h2_1, h2_7, h2_8, hops]
      refine ⟨(by rw [← hP]; exact callable_kAt hP hi8), ?_⟩
      try with_reducible refine stI ?_
      try simp (maxSteps:=1000000)(dsimp:=false)(disch:=omega) only [go_sem, Φa, hP, h2_3, h2_9, h2_1, h2_7, h2_8, hops]
      refine SCall.mono (word_spec hP ho hm hM hi8) ?_
      rintro v_ L_ ⟨hv_, hL_⟩
      rw [hv_, hL_]
      clear hv_ hL_ v_ L_
      try with_reducible refine stI ?_
      try simp (maxSteps:=1000000)(dsimp:=false)(disch:=omega) only [go_sem, Φa, hP, h2_3, h2_9, h2_1, h2_7, h2_8, hops]
      refine hK11 _ _ ?_
      try clear hK11 K11
      refine SX.live [1, 3, 6, 7, 8, 9] (fun T3 hT3 => ?_)
      simp only [forall_mem_cons', forall_mem_nil', go_sem, Φa, hP, h2_3, h2_9, h2_1, h2_7, h2_8] at hT3
      obtain ⟨h3_1, h3_3, h3_6, h3_7, h3_8, h3_9⟩ := hT3
      clear h2_3 h2_9 h2_1 h2_7 h2_8 T2
      refine SX.seq_k fun K12 hK12 => ?_
      refine SX.region_d [some 17, some 18] rfl (fun ops hops => ?_)
      unfold Dsts at hops
      simp (maxSteps:=1000000)(dsimp:=false)(disch:=omega) only [go_sem, Φa, hP, h3_1, h3_3, h3_6, h3_7, h3_8, h3_9, hops]
      repeat' ((first | refine And.intro (by omega) ?_ | fail); try (with_reducible refine stI ?_); try simp (maxSteps:=1000000)(dsimp:=false)(disch:=omega) only [go_sem, Φa, hP, h3_1, h3_3, h3_6, h3_7, h3_8, h3_9, hops])
      refine hK12 _ _ ?_
      try clear hK12 K12
      refine SX.cond_k fun X13 Y13 hX13 hY13 => ?_
      simp (maxSteps:=1000000)(dsimp:=false)(disch:=omega) only [go_sem, Φa, hP, h3_1, h3_3, h3_6, h3_7, h3_8, h3_9, condVC]
      refine ⟨fun hc18 => hX13 ?_, fun hc18 => hY13 ?_⟩
      · clear hX13 hY13 X13 Y13
        obtain ⟨oA, oC, rfl, _, _⟩ := Row.form hrow
        refine SX.region_d [some 19, some 20, some 21, some 22, some 3] rfl (fun ops hops => ?_)
        unfold Dsts at hops
        simp (maxSteps:=1000000)(dsimp:=false)(disch:=omega) only [go_sem, Φa, hP, h3_1, h3_3, h3_6, h3_7, h3_8, h3_9, hops]
        intro g22
        try with_reducible refine stI ?_
        try simp (maxSteps:=1000000)(dsimp:=false)(disch:=omega) only [go_sem, Φa, hP, h3_1, h3_3, h3_6, h3_7, h3_8, h3_9, hops]
        refine YAppend.rowL (f := stV) (x := wordAt x i) (i := 3) (z := [.string ⟨#[]⟩]) (hP ▸ T.elS_75) (hP ▸ T.zr_9) rfl rfl rfl rfl hrow (by omega) (by decide) ?_
        intro v' s' hrow'
        obtain ⟨nA, nC, rfl, _, _⟩ := Row.form hrow'
        try with_reducible refine stI ?_
        try simp (maxSteps:=1000000)(dsimp:=false)(disch:=omega) only [go_sem, Φa, hP, h3_1, h3_3, h3_6, h3_7, h3_8, h3_9, hops]
        refine hK9 _ _ ?_
        try clear hK9 K9
        refine SX.region_d [some 23, some 9] rfl (fun ops hops => ?_)
        unfold Dsts at hops
        simp (maxSteps:=1000000)(dsimp:=false)(disch:=omega) only [go_sem, Φa, hP, h3_1, h3_3, h3_6, h3_7, h3_8, h3_9, hops]
        repeat' ((first | refine And.intro (by omega) ?_ | fail); try (with_reducible refine stI ?_); try simp (maxSteps:=1000000)(dsimp:=false)(disch:=omega) only [go_sem, Φa, hP, h3_1, h3_3, h3_6, h3_7, h3_8, h3_9, hops])
        refine hK5 (i + 1, .slice nA (accW x i ++ [wordAt x i]).length nC, s') _ (some (g, .cells wordsC.toArray 82 (0, 0)) :: some (b0, .cells x.cells.toArray 46 (0, 0)) :: s' :: L) _ (by first | exact Less.refl _ | exact Less.drop _ _ | exact Less.drops (Less.drop _ _) | exact Less.drops (Less.drops (Less.drop _ _)) | exact Less.drops (Less.drops (Less.drops (Less.drop _ _))) | exact Less.drops (Less.drops (Less.drops (Less.drops (Less.drop _ _))))) ?_ ?_
        · try dsimp only
          refine ⟨?_, ?_, ?_, ?_, ?_, ?_, ?_⟩
          · simp (maxSteps:=1000000)(dsimp:=false)(disch:=omega) only [go_sem, Φa, hP, h3_1, h3_3, h3_6, h3_7, h3_8, h3_9]
            first | done | rfl | skip
          · simp (maxSteps:=1000000)(dsimp:=false)(disch:=omega) only [go_sem, Φa, hP, h3_1, h3_3, h3_6, h3_7, h3_8, h3_9]
            first | done | rfl | skip
          · simp (maxSteps:=1000000)(dsimp:=false)(disch:=omega) only [go_sem, Φa, hP, h3_1, h3_3, h3_6, h3_7, h3_8, h3_9]
          · simp (maxSteps:=1000000)(dsimp:=false)(disch:=omega) only [go_sem, Φa, hP, h3_1, h3_3, h3_6, h3_7, h3_8, h3_9]
          · simp (maxSteps:=1000000)(dsimp:=false)(disch:=omega) only [go_sem, Φa, hP, h3_1, h3_3, h3_6, h3_7, h3_8, h3_9]
          · rfl
          · exact ⟨by omega, by rw [accW_yes (by simpa using hc18)]; exact hrow'⟩
        · (try dsimp only); omega
      · clear hX13 hY13 X13 Y13
        refine SX.skip ?_
        try simp only [andThen_normal, andThen_ret, andThen_exit, inBlk_normal, inBlk_ret, inBlk_exit, Nat.reduceEqDiff, if_true, if_false, ↓reduceIte]
        refine hK9 _ _ ?_
        try clear hK9 K9
        refine SX.region_d [some 23, some 9] rfl (fun ops hops => ?_)
        unfold Dsts at hops
        simp (maxSteps:=1000000)(dsimp:=false)(disch:=omega) only [go_sem, Φa, hP, h3_1, h3_3, h3_6, h3_7, h3_8, h3_9, hops]
        repeat' ((first | refine And.intro (by omega) ?_ | fail); try (with_reducible refine stI ?_); try simp (maxSteps:=1000000)(dsimp:=false)(disch:=omega) only [go_sem, Φa, hP, h3_1, h3_3, h3_6, h3_7, h3_8, h3_9, hops])
        refine hK5 (i + 1, vo, so) _ (some (g, .cells wordsC.toArray 82 (0, 0)) :: some (b0, .cells x.cells.toArray 46 (0, 0)) :: so :: L) _ (by first | exact Less.refl _ | exact Less.drop _ _ | exact Less.drops (Less.drop _ _) | exact Less.drops (Less.drops (Less.drop _ _)) | exact Less.drops (Less.drops (Less.drops (Less.drop _ _))) | exact Less.drops (Less.drops (Less.drops (Less.drops (Less.drop _ _))))) ?_ ?_
        · try dsimp only
          refine ⟨?_, ?_, ?_, ?_, ?_, ?_, ?_⟩
          · simp (maxSteps:=1000000)(dsimp:=false)(disch:=omega) only [go_sem, Φa, hP, h3_1, h3_3, h3_6, h3_7, h3_8, h3_9]
            first | done | rfl | skip
          · simp (maxSteps:=1000000)(dsimp:=false)(disch:=omega) only [go_sem, Φa, hP, h3_1, h3_3, h3_6, h3_7, h3_8, h3_9]
            first | done | rfl | skip
          · simp (maxSteps:=1000000)(dsimp:=false)(disch:=omega) only [go_sem, Φa, hP, h3_1, h3_3, h3_6, h3_7, h3_8, h3_9]
          · simp (maxSteps:=1000000)(dsimp:=false)(disch:=omega) only [go_sem, Φa, hP, h3_1, h3_3, h3_6, h3_7, h3_8, h3_9]
          · simp (maxSteps:=1000000)(dsimp:=false)(disch:=omega) only [go_sem, Φa, hP, h3_1, h3_3, h3_6, h3_7, h3_8, h3_9]
          · rfl
          · exact ⟨by omega, by rw [accW_no (by simpa using hc18)]; exact hrow⟩
        · (try dsimp only); omega
    · clear hX8 hY8 X8 Y8
      refine SX.exit ?_
      try simp only [andThen_normal, andThen_ret, andThen_exit, inBlk_normal, inBlk_ret, inBlk_exit, Nat.reduceEqDiff, if_true, if_false, ↓reduceIte]
      refine hK3 _ _ ?_
      try clear hK3 K3
      refine SX.seq_k fun K14 hK14 => ?_
      obtain rfl : i = 8 := by omega
      have hal := accW_len x 8
      have hjl := join_len (ss := accW x 8) (sep := ⟨#[32]⟩) (fun s hs => accW_mem hs)
      have hj2 : (accW x 8).length * ((⟨#[32]⟩ : ByteArray).size + 5) ≤ 8 * 6 := Nat.mul_le_mul hal (by decide)
      refine SX.region_d [some 24, some 25, some 2] rfl (fun ops hops => ?_)
      unfold Dsts at hops
      simp (maxSteps:=1000000)(dsimp:=false)(disch:=omega) only [go_sem, Φa, hP, h2_3, h2_9, h2_1, h2_7, h2_8, hops]
      refine SCall.mono (Join_spec (i := 2) hP rfl hrow (by omega) (by omega)) ?_
      rintro v_ L_ ⟨hv_, hL_⟩
      rw [hv_, hL_]
      clear hv_ hL_ v_ L_
      try with_reducible refine stI ?_
      try simp (maxSteps:=1000000)(dsimp:=false)(disch:=omega) only [go_sem, Φa, hP, h2_3, h2_9, h2_1, h2_7, h2_8, hops]
      refine hK14 _ _ ?_
      try clear hK14 K14
      refine SX.ret ?_
      simp only [andThen_normal, andThen_ret, andThen_exit, inBlk_normal, inBlk_ret, inBlk_exit, Nat.reduceEqDiff, if_true, if_false, ↓reduceIte, retQ_ret]
      try simp only [res0, res1, res2, res3, stK_e, go_sem, Φa, hP, h2_3, h2_9, h2_1, h2_7, h2_8]
      exact ⟨_, _, Less.drops (Less.drops (Less.drop _ _)), rfl, rfl, rfl⟩

end Go.Proofs.YtcenlgofldnfcaaDoor
set_option linter.unusedVariables false
set_option linter.unusedSimpArgs false
namespace Go.Proofs.YtcenlgofldnfcaaDoor
open Go.RowKit Go.SX Go.Proofs

/-! Print. -/
def linesI (l : List Rc) : List Int := l.flatMap fun x => nums8 (lineS x) ++ [10]
def printP (l : List Rc) : ByteArray × Int := if chkL l = 0 then (if 65536 < (linesI l).length then (⟨#[]⟩, 2) else (txt (linesI l), 0)) else (⟨#[]⟩, chkL l)
theorem linesI_take {l : List Rc} {k : Nat} (h : k < l.length) : linesI (l.take (k + 1)) = linesI (l.take k) ++ nums8 (lineS (l.getD k default) ++ ⟨#[10]⟩) := by
  have e : nums8 (lineS (l.getD k default) ++ ⟨#[10]⟩) = nums8 (lineS (l.getD k default)) ++ [10] := by
    simp [nums8]
  rw [List.take_add_one, getD_get (d := default) h, e]
  unfold linesI
  rw [List.flatMap_append]
  simp
theorem linesI_le (l : List Rc) (k : Nat) : (linesI (l.take k)).length ≤ (linesI l).length := by
  conv => rhs; rw [← List.take_append_drop k l]
  unfold linesI
  rw [List.flatMap_append, List.length_append]
  omega
theorem linesI_byte (l : List Rc) : Byte (linesI l) := fun x hx => by
  obtain ⟨r, _, hr⟩ := List.mem_flatMap.1 hx
  rcases List.mem_append.1 hr with h | h
  · exact nums8_byte _ x h
  · rw [List.mem_singleton.1 h]; omega
theorem getD_mem {α : Type} [Inhabited α] {l : List α} {k : Nat} (h : k < l.length) : l.getD k default ∈ l := List.mem_of_getElem? (getD_get h)
set_option maxHeartbeats 1000000 in
set_option maxRecDepth 100000 in
theorem Print_core {Γ : Ctx} (hP : Γ.P = Tryd.prog) {L : Hp} (hO : Γ.own = []) {v : Value} {l : List Rc} (hl : SlC (Cell Γ []) v l) (ho : ∀ r ∈ l, OkR r) (hM : MD Γ) :
    SCall Γ 12 #[v] ([]) (fun v' L' => v' = .tuple #[.string (printP l).1, .int .i64 (printP l).2] ∧ L' = []) := by
  obtain ⟨A, c, rfl, hc⟩ := Sl.shape hl
  obtain ⟨a1, e1, _, hA⟩ := Sl.at1 hl
  refine SCall.enter (n := 27) (res2 2 3) (hP ▸ Tryd.func12) rfl rfl (by simp) (res2_ok rfl) ?_
  refine SX.seq_k fun K1 hK1 => ?_
  refine SX.region_d [some 2, some 3] rfl (fun ops hops => ?_)
  unfold Dsts at hops
  simp (maxSteps := 1000000) (dsimp := false) (disch := omega) only [go_sem, ia_someH, hP, hops]
  refine hK1 _ _ ?_
  try clear hK1 K1
  refine SX.seq_k fun K2 hK2 => ?_
  refine SX.seq_k fun K3 hK3 => ?_
  refine SX.region_d [some 8, some 9, some 4] rfl (fun ops hops => ?_)
  unfold Dsts at hops
  simp (maxSteps := 1000000) (dsimp := false) (disch := omega) only [go_sem, ia_someH, hP, hops]
  refine SCall.mono (check_spec hP hl) ?_
  rintro v_ L_ ⟨hv_, hL_⟩
  rw [hv_, hL_]
  clear hv_ hL_ v_ L_
  try with_reducible refine stI ?_
  try simp (maxSteps := 1000000) (dsimp := false) (disch := omega) only [go_sem, ia_someH, hP, hops]
  refine hK3 _ _ ?_
  try clear hK3 K3
  refine SX.seq_k fun K4 hK4 => ?_
  refine SX.region_d [some 10, some 11] rfl (fun ops hops => ?_)
  unfold Dsts at hops
  simp (maxSteps := 1000000) (dsimp := false) (disch := omega) only [go_sem, ia_someH, hP, hops]
  repeat' ((first | refine And.intro (by omega) ?_ | fail); try (with_reducible refine stI ?_); try simp (maxSteps := 1000000) (dsimp := false) (disch := omega) only [go_sem, ia_someH, hP, hops])
  refine hK4 _ _ ?_
  try clear hK4 K4
  refine SX.cond_k fun X5 Y5 hX5 hY5 => ?_
  simp (maxSteps := 1000000) (dsimp := false) (disch := omega) only [go_sem, ia_someH, hP, condVC]
  refine ⟨fun hc11 => hX5 ?_, fun hc11 => hY5 ?_⟩
  · clear hX5 hY5 X5 Y5
    refine SX.seq_k fun K6 hK6 => ?_
    refine SX.region_d [some 12, some 2, some 3] rfl (fun ops hops => ?_)
    unfold Dsts at hops
    simp (maxSteps := 1000000) (dsimp := false) (disch := omega) only [go_sem, ia_someH, hP, hops]
    refine hK6 _ _ ?_
    try clear hK6 K6
    refine SX.ret ?_
    simp only [andThen_normal, andThen_ret, andThen_exit, inBlk_normal, inBlk_ret, inBlk_exit, Nat.reduceEqDiff, if_true, if_false, ↓reduceIte, retQ_ret]
    try simp only [res0, res1, res2, res3, stK_e, go_sem, ia_someH, hP]
    refine ⟨_, _, Less.refl _, rfl, ?_, rfl⟩
    unfold printP
    rw [if_neg (by simpa using hc11)]
  · clear hX5 hY5 X5 Y5
    refine SX.skip ?_
    try simp only [andThen_normal, andThen_ret, andThen_exit, inBlk_normal, inBlk_ret, inBlk_exit, Nat.reduceEqDiff, if_true, if_false, ↓reduceIte]
    refine hK2 _ _ ?_
    try clear hK2 K2
    refine SX.seq_k fun K7 hK7 => ?_
    refine SX.region_d [some 5] rfl (fun ops hops => ?_)
    unfold Dsts at hops
    simp (maxSteps := 1000000) (dsimp := false) (disch := omega) only [go_sem, ia_someH, hP, hops]
    intro b5
    try with_reducible refine stI ?_
    try simp (maxSteps := 1000000) (dsimp := false) (disch := omega) only [go_sem, ia_someH, hP, hops]
    refine hK7 _ _ ?_
    try clear hK7 K7
    refine SX.seq_k fun K8 hK8 => ?_
    refine SX.seq_k fun K9 hK9 => ?_
    have hc0 : chkL l = 0 := by simpa using hc11
    obtain ⟨hll, hlm⟩ := chkL_zero hc0
    refine SX.less less_ins1 ?_
    refine SX.region_d [some 13, some 14, some 15] rfl (fun ops hops => ?_)
    unfold Dsts at hops
    simp (maxSteps := 1000000) (dsimp := false) (disch := omega) only [go_sem, ia_someH, hP, hops]
    repeat' ((first | refine And.intro (by omega) ?_ | fail); try (with_reducible refine stI ?_); try simp (maxSteps := 1000000) (dsimp := false) (disch := omega) only [go_sem, ia_someH, hP, hops])
    refine hK9 _ _ ?_
    try clear hK9 K9
    refine SX.live [5, 13, 14, 15] (fun T1 hT1 => ?_)
    simp only [forall_mem_cons', forall_mem_nil', go_sem, ia_someH, hP] at hT1
    obtain ⟨h1_5, h1_13, h1_14, h1_15⟩ := hT1
    refine SX.block ?_
    refine SX.live [5, 13, 14, 15] (fun T2 hT2 => ?_)
    simp only [forall_mem_cons', forall_mem_nil', go_sem, ia_someH, hP, h1_5, h1_13, h1_14, h1_15] at hT2
    obtain ⟨h2_5, h2_13, h2_14, h2_15⟩ := hT2
    clear h1_5 h1_13 h1_14 h1_15 T1
    refine SX.loop_k (fun (ss : (Nat) × (Value) × (Value) × (Slot)) T L' => (fun (k : Nat) (p : Value) (vb : Value) (sb : Slot) => T 15 = .int .i64 (k : Int) ∧ T 5 = T2 5 ∧ T 13 = T2 13 ∧ T 14 = T2 14 ∧ L' = BD b5 p vb :: sb :: [] ∧ (k ≤ l.length ∧ Ptr b5 p ∧ RowI .u8 5 vb (linesI (l.take k)) sb ∧ (linesI (l.take k)).length ≤ 65536)) (ss.1) (ss.2.1) (ss.2.2.1) (ss.2.2.2)) (fun (ss : (Nat) × (Value) × (Value) × (Slot)) => (fun (k : Nat) (p : Value) (vb : Value) (sb : Slot) => l.length - k) (ss.1) (ss.2.1) (ss.2.2.1) (ss.2.2.2)) (0, .pointer none, .slice none 0 0, none) ?_ ?_
    · try dsimp only
      refine ⟨?_, ?_, ?_, ?_, ?_, ?_⟩
      · first | exact h2_15 | (rw [h2_15]; rfl) | (rw [h2_15]; simp; done)
      · rfl
      · rfl
      · rfl
      · rfl
      · exact ⟨Nat.zero_le _, .inl rfl, Row.nil _ _, Nat.zero_le _⟩
    · intro ss T3 L3 hI K10 hK10
      obtain ⟨k, p, vb, sb⟩ := ss
      try dsimp only at hI hK10
      simp only [h2_5, h2_13, h2_14] at hI hK10
      obtain ⟨h3_15, h3_5, h3_13, h3_14, hL3, ⟨hk, hp, hrow, hlen⟩⟩ := hI
      replace hL3 := hL3.symm
      subst hL3
      clear h2_5 h2_13 h2_14 h2_15 T2
      refine SX.seq_k fun K11 hK11 => ?_
      refine SX.region_d [some 16] rfl (fun ops hops => ?_)
      unfold Dsts at hops
      simp (maxSteps := 1000000) (dsimp := false) (disch := omega) only [go_sem, ia_someH, hP, h3_15, h3_5, h3_13, h3_14, hops]
      repeat' ((first | refine And.intro (by omega) ?_ | fail); try (with_reducible refine stI ?_); try simp (maxSteps := 1000000) (dsimp := false) (disch := omega) only [go_sem, ia_someH, hP, h3_15, h3_5, h3_13, h3_14, hops])
      refine hK11 _ _ ?_
      try clear hK11 K11
      refine SX.seq_k fun K12 hK12 => ?_
      refine SX.cond_k fun X13 Y13 hX13 hY13 => ?_
      simp (maxSteps := 1000000) (dsimp := false) (disch := omega) only [go_sem, ia_someH, hP, h3_15, h3_5, h3_13, h3_14, condVC]
      refine ⟨fun hc16 => hX13 ?_, fun hc16 => hY13 ?_⟩
      · clear hX13 hY13 X13 Y13
        refine SX.skip ?_
        try simp only [andThen_normal, andThen_ret, andThen_exit, inBlk_normal, inBlk_ret, inBlk_exit, Nat.reduceEqDiff, if_true, if_false, ↓reduceIte]
        refine hK12 _ _ ?_
        try clear hK12 K12
        refine SX.seq_k fun K14 hK14 => ?_
        refine SX.block ?_
        refine SX.seq_k fun K15 hK15 => ?_
        have hkl : k < l.length := by omega
        have hck := hA k _ (getD_get (d := default) hkl)
        have hok := ho _ (getD_mem hkl)
        have hmk := hlm k hkl
        refine SX.region_d [some 17, some 18, some 7, none] rfl (fun ops hops => ?_)
        unfold Dsts at hops
        simp (maxSteps := 1000000) (dsimp := false) (disch := omega) only [go_sem, ia_someH, hP, h3_15, h3_5, h3_13, h3_14, hops, ia_at e1]
        refine ⟨_, Cell.any (hck 0 _ rfl), _, Cell.any (hck 1 _ rfl), _, Cell.any (hck 2 _ rfl), _, Cell.any (hck 3 _ rfl), _, Cell.any (hck 4 _ rfl), _, Cell.any (hck 5 _ rfl), _, Cell.any (hck 6 _ rfl), _, Cell.any (hck 7 _ rfl), ?_⟩
        try with_reducible refine stI ?_
        try simp (maxSteps := 1000000) (dsimp := false) (disch := omega) only [go_sem, ia_someH, hP, h3_15, h3_5, h3_13, h3_14, hops, ia_at e1]
        intro b7
        try with_reducible refine stI ?_
        try simp (maxSteps := 1000000) (dsimp := false) (disch := omega) only [go_sem, ia_someH, hP, h3_15, h3_5, h3_13, h3_14, hops, ia_at e1]
        refine ⟨0, _, _, _, rfl, (by show 8 ≤ 8; decide), .inr (by decide), ?_⟩
        try with_reducible refine stI ?_
        try simp (maxSteps := 1000000) (dsimp := false) (disch := omega) only [go_sem, ia_someH, hP, h3_15, h3_5, h3_13, h3_14, hops, ia_at e1]
        refine hK15 _ _ ?_
        try clear hK15 K15
        refine SX.seq_k fun K16 hK16 => ?_
        refine SX.region_d [some 19, some 20, some 21, some 22] rfl (fun ops hops => ?_)
        unfold Dsts at hops
        simp (maxSteps := 1000000) (dsimp := false) (disch := omega) only [go_sem, ia_someH, hP, h3_15, h3_5, h3_13, h3_14, hops]
        rw [show (#[Value.int .u8 (l.getD k default).code, .int .u16 (l.getD k default).ad, .int .u8 (l.getD k default).data, .bool (l.getD k default).rd, .bool (l.getD k default).wr, .int .u8 (l.getD k default).port, .bool (l.getD k default).q, .int .u8 (l.getD k default).md] : Array Value) = (l.getD k default).cells.toArray from rfl]
        refine ⟨_, Cell.at 0 rfl (show (Rc.cells _)[0]? = _ from rfl), _, Cell.at 0 rfl (show (Rc.cells _)[1]? = _ from rfl), _, Cell.at 0 rfl (show (Rc.cells _)[2]? = _ from rfl), _, Cell.at 0 rfl (show (Rc.cells _)[3]? = _ from rfl), _, Cell.at 0 rfl (show (Rc.cells _)[4]? = _ from rfl), _, Cell.at 0 rfl (show (Rc.cells _)[5]? = _ from rfl), _, Cell.at 0 rfl (show (Rc.cells _)[6]? = _ from rfl), _, Cell.at 0 rfl (show (Rc.cells _)[7]? = _ from rfl), ?_⟩
        try with_reducible refine stI ?_
        try simp (maxSteps := 1000000) (dsimp := false) (disch := omega) only [go_sem, ia_someH, hP, h3_15, h3_5, h3_13, h3_14, hops]
        refine SCall.mono (line_spec hP hok hmk hM) ?_
        rintro v_ L_ ⟨hv_, hL_⟩
        rw [hv_, hL_]
        clear hv_ hL_ v_ L_
        have hsz := lineS_size (l.getD k default)
        have hlt := linesI_take hkl
        generalize hls : lineS (l.getD k default) = ls at hsz hlt ⊢
        try with_reducible refine stI ?_
        try simp (maxSteps := 1000000) (dsimp := false) (disch := omega) only [go_sem, ia_someH, hP, h3_15, h3_5, h3_13, h3_14, hops]
        refine And.intro (by omega) ?_
        try with_reducible refine stI ?_
        try simp (maxSteps := 1000000) (dsimp := false) (disch := omega) only [go_sem, ia_someH, hP, h3_15, h3_5, h3_13, h3_14, hops]
        refine SCall.mono (SCall.pre (Less.drop _ _) (WriteString_spec (s := ls ++ ⟨#[10]⟩) hP hp hrow (by rw [bapp_size]; have : (⟨#[10]⟩ : ByteArray).size = 1 := rfl; omega))) ?_
        rintro v_ L_ ⟨rfl, vb', sb', rfl, hrow'⟩
        try with_reducible refine stI ?_
        try simp (maxSteps := 1000000) (dsimp := false) (disch := omega) only [go_sem, ia_someH, hP, h3_15, h3_5, h3_13, h3_14, hops]
        refine hK16 _ _ ?_
        try clear hK16 K16
        refine SX.seq_k fun K17 hK17 => ?_
        refine SX.region_d [some 23, some 24] rfl (fun ops hops => ?_)
        unfold Dsts at hops
        simp (maxSteps := 1000000) (dsimp := false) (disch := omega) only [go_sem, ia_someH, hP, h3_15, h3_5, h3_13, h3_14, hops]
        refine SCall.mono (Len_spec hP hrow') ?_
        rintro v_ L_ ⟨hv_, hL_⟩
        rw [hv_, hL_]
        clear hv_ hL_ v_ L_
        try with_reducible refine stI ?_
        try simp (maxSteps := 1000000) (dsimp := false) (disch := omega) only [go_sem, ia_someH, hP, h3_15, h3_5, h3_13, h3_14, hops]
        refine hK17 _ _ ?_
        try clear hK17 K17
        refine SX.live [5, 13, 14, 15, 24] (fun T4 hT4 => ?_)
        simp only [forall_mem_cons', forall_mem_nil', go_sem, ia_someH, hP, h3_15, h3_5, h3_13, h3_14] at hT4
        obtain ⟨h4_5, h4_13, h4_14, h4_15, h4_24⟩ := hT4
        clear h3_15 h3_5 h3_13 h3_14 T3
        refine SX.cond_k fun X18 Y18 hX18 hY18 => ?_
        simp (maxSteps := 1000000) (dsimp := false) (disch := omega) only [go_sem, ia_someH, hP, h4_5, h4_13, h4_14, h4_15, h4_24, condVC]
        refine ⟨fun hc24 => hX18 ?_, fun hc24 => hY18 ?_⟩
        · clear hX18 hY18 X18 Y18
          refine SX.seq_k fun K19 hK19 => ?_
          refine SX.region_d [some 2, some 3] rfl (fun ops hops => ?_)
          unfold Dsts at hops
          simp (maxSteps := 1000000) (dsimp := false) (disch := omega) only [go_sem, ia_someH, hP, h4_5, h4_13, h4_14, h4_15, h4_24, hops]
          refine hK19 _ _ ?_
          try clear hK19 K19
          refine SX.ret ?_
          simp only [andThen_normal, andThen_ret, andThen_exit, inBlk_normal, inBlk_ret, inBlk_exit, Nat.reduceEqDiff, if_true, if_false, ↓reduceIte, retQ_ret]
          try simp only [res0, res1, res2, res3, stK_e, go_sem, ia_someH, hP, h4_5, h4_13, h4_14, h4_15, h4_24]
          refine ⟨_, [], Less.nil _, rfl, ?_, rfl⟩
          unfold printP
          rw [if_pos hc0, if_pos (by have := linesI_le l (k + 1); rw [hlt] at this; omega)]
        · clear hX18 hY18 X18 Y18
          refine SX.skip ?_
          try simp only [andThen_normal, andThen_ret, andThen_exit, inBlk_normal, inBlk_ret, inBlk_exit, Nat.reduceEqDiff, if_true, if_false, ↓reduceIte]
          refine hK14 _ _ ?_
          try clear hK14 K14
          refine SX.region_d [some 25, some 15] rfl (fun ops hops => ?_)
          unfold Dsts at hops
          simp (maxSteps := 1000000) (dsimp := false) (disch := omega) only [go_sem, ia_someH, hP, h4_5, h4_13, h4_14, h4_15, h4_24, hops]
          repeat' ((first | refine And.intro (by omega) ?_ | fail); try (with_reducible refine stI ?_); try simp (maxSteps := 1000000) (dsimp := false) (disch := omega) only [go_sem, ia_someH, hP, h4_5, h4_13, h4_14, h4_15, h4_24, hops])
          refine hK10 (k + 1, selfP b5, vb', sb') _ (BD b5 (selfP b5) vb' :: sb' :: []) _ (by first | exact Less.refl _ | exact Less.drop _ _ | exact Less.drops (Less.drop _ _) | exact Less.drops (Less.drops (Less.drop _ _)) | exact Less.drops (Less.drops (Less.drops (Less.drop _ _))) | exact Less.drops (Less.drops (Less.drops (Less.drops (Less.drop _ _))))) ?_ ?_
          · try dsimp only
            refine ⟨?_, ?_, ?_, ?_, ?_, ?_⟩
            · simp (maxSteps := 1000000) (dsimp := false) (disch := omega) only [go_sem, ia_someH, hP, h4_5, h4_13, h4_14, h4_15, h4_24]
              first | done | rfl | skip
            · simp (maxSteps := 1000000) (dsimp := false) (disch := omega) only [go_sem, ia_someH, hP, h4_5, h4_13, h4_14, h4_15, h4_24]
            · simp (maxSteps := 1000000) (dsimp := false) (disch := omega) only [go_sem, ia_someH, hP, h4_5, h4_13, h4_14, h4_15, h4_24]
            · simp (maxSteps := 1000000) (dsimp := false) (disch := omega) only [go_sem, ia_someH, hP, h4_5, h4_13, h4_14, h4_15, h4_24]
            · rfl
            · exact ⟨by omega, .inr rfl, by rw [hlt]; exact hrow', by rw [hlt]; omega⟩
          · (try dsimp only); omega
      · clear hX13 hY13 X13 Y13
        refine SX.exit ?_
        try simp only [andThen_normal, andThen_ret, andThen_exit, inBlk_normal, inBlk_ret, inBlk_exit, Nat.reduceEqDiff, if_true, if_false, ↓reduceIte]
        refine hK8 _ _ ?_
        try clear hK8 K8
        refine SX.seq_k fun K20 hK20 => ?_
        obtain rfl : k = l.length := by omega
        rw [List.take_length] at hrow hlen
        refine SX.region_d [some 26, some 2, some 3] rfl (fun ops hops => ?_)
        unfold Dsts at hops
        simp (maxSteps := 1000000) (dsimp := false) (disch := omega) only [go_sem, ia_someH, hP, h3_15, h3_5, h3_13, h3_14, hops]
        refine SCall.mono (String_spec hP hO hp hrow (linesI_byte l)) ?_
        rintro v_ L_ ⟨rfl, rfl⟩
        try with_reducible refine stI ?_
        try simp (maxSteps := 1000000) (dsimp := false) (disch := omega) only [go_sem, ia_someH, hP, h3_15, h3_5, h3_13, h3_14, hops]
        refine hK20 _ _ ?_
        try clear hK20 K20
        refine SX.ret ?_
        simp only [andThen_normal, andThen_ret, andThen_exit, inBlk_normal, inBlk_ret, inBlk_exit, Nat.reduceEqDiff, if_true, if_false, ↓reduceIte, retQ_ret]
        try simp only [res0, res1, res2, res3, stK_e, go_sem, ia_someH, hP, h3_15, h3_5, h3_13, h3_14]
        refine ⟨_, _, Less.refl _, rfl, ?_, rfl⟩
        unfold printP
        rw [if_pos hc0, if_neg (by omega)]

theorem Print_spec {Γ : Ctx} (hP : Γ.P = Tryd.prog) {L : Hp} {v : Value} {l : List Rc} (hl : SlC (Cell Γ L) v l) (ho : ∀ r ∈ l, OkR r) (hM : MD Γ) : SCall Γ 12 #[v] L (fun v' L' => v' = .tuple #[.string (printP l).1, .int .i64 (printP l).2] ∧ L' = L) :=
  SCall.lift fun w hi => Print_core (L := []) (Γ := ⟨Γ.P, w, []⟩) hP rfl (SlC.mono (fun a v h => Cell.lift hi h) hl) ho (fun L i h => Cell.any (Cell.lift hi (hM _ i h)))

end Go.Proofs.YtcenlgofldnfcaaDoor
set_option linter.unusedVariables false
set_option linter.unusedSimpArgs false
namespace Go.Proofs.YtcenlgofldnfcaaDoor
open Go.RowKit Go.SX Go.Proofs
open Go.SX renaming ia_someH → Φa

/-! Pack. -/
/-- A literal's bytes as a slice of its own: the row gets its mark. -/
theorem RX.marked {Γ : Ctx} {n : Nat} {Q : Exit → Env → Hp → Prop} {T : Env} {L : Hp} {ops : Array Oper} {o : Oper} {rest : List Oper} {t e e1 : TypeId} {x : Operand} {g m c i : Nat} {C : List Value} (hop : o.op = .convert t t x) (hg : o.guard = none) (hx : ev T x = .slice (some ⟨g, 0, none⟩) m c)
    (ht : Γ.P.underlying t = some (.slice e)) (he : Γ.P.underlying e = some (.int .u8)) (hi : L[i]? = some (some (g, .cells C.toArray e1 (0, 0))))
    (hk : putVC n o.dst (.slice (some ⟨g, 0, none⟩) m c) T (fun T' => RX Γ n ops rest Q T' (L.set i (some (g, .cells C.toArray e1 (C.length, C.length + 1)))))) : RX Γ n ops (o :: rest) Q T L := fun ds a w hf hI => by
  have hw : Region.wanted o (yielded ops a.tmps) = true := by unfold Region.wanted; rw [hg]
  have hb := hI.blk g _ (List.mem_of_getElem? hi)
  have hsh : w.shape? g = some (e1, C.length) := by unfold World.shape?; rw [hb]; simp
  simp only [wpList, hw, if_true]
  refine .inl ?_
  unfold Oper.wp
  have hrun : (execOp (ev T) o).run Γ.P w = .ok (.value (.slice (some ⟨g, 0, none⟩) m c)) (w.freeze ⟨g, C.length, none⟩ 1) := by
    simp [execOp, hop, hx, convert, run_underlying ht, run_underlying he, markStringish, hsh]
  rw [hf.eval, hrun]
  obtain ⟨T', hf', hk'⟩ := putVC_sound hf hk
  refine hk' ds _ _ hf' (hI.set (i := i) (o' := .cells C.toArray e1 (C.length, C.length + 1)) hi ?_ (fun k hk => ?_) ?_ rfl rfl rfl)
  · show (w.freeze ⟨g, C.length, none⟩ 1).heap[g]? = _
    unfold World.freeze
    rw [if_neg (by decide)]
    simp [Array.getElem?_modify, hb]
  · unfold World.freeze
    rw [if_neg (by decide)]
    simp only [Array.getElem?_modify]
    rw [if_neg (Ne.symm hk)]
  · unfold World.freeze
    rw [if_neg (by decide)]
    simp
def hd0 (x : Rc) : Int := bits .or .u8 x.code (IntKind.u8.wrap (x.md * 2 ^ min 5 8))
def hd1 (x : Rc) : Int := if x.rd = true then bits .or .u8 (hd0 x) 4 else hd0 x
def hd2 (x : Rc) : Int := if x.wr = true then bits .or .u8 (hd1 x) 8 else hd1 x
def hd3 (x : Rc) : Int := if x.q = true then bits .or .u8 (hd2 x) 16 else hd2 x
def farB (x : Rc) (next : Int) : Bool := !decide (x.ad = next) || !decide (x.port = 0)
def frontI (x : Rc) (next : Int) : List Int := if farB x next = true then [bits .or .u8 (hd3 x) 128, x.port, IntKind.u8.wrap x.ad, IntKind.u8.wrap (Int.fdiv x.ad (2 ^ min 8 16))] else [hd3 x]
def packI (x : Rc) (next : Int) : List Int := frontI x next ++ [x.data]
def recsI : List Rc → Int → List Int
  | [], _ => []
  | x :: l, next => packI x next ++ recsI l (IntKind.u16.wrap (x.ad + 1))
def nxtI : List Rc → Int → Int
  | [], n => n
  | x :: l, _ => nxtI l (IntKind.u16.wrap (x.ad + 1))
theorem recsI_app : ∀ (a b : List Rc) (n : Int), recsI (a ++ b) n = recsI a n ++ recsI b (nxtI a n)
  | [], b, n => rfl
  | x :: a, b, n => by rw [List.cons_append, recsI, recsI_app a b, recsI, nxtI, List.append_assoc]
theorem nxtI_app : ∀ (a : List Rc) (x : Rc) (n : Int), nxtI (a ++ [x]) n = IntKind.u16.wrap (x.ad + 1)
  | [], x, n => rfl
  | y :: a, x, n => by rw [List.cons_append, nxtI, nxtI_app a]
theorem frontI_len (x : Rc) (n : Int) : (frontI x n).length ≤ 4 := by unfold frontI; split <;> simp
theorem recsI_len : ∀ (l : List Rc) (n : Int), (recsI l n).length ≤ 5 * l.length
  | [], n => Nat.zero_le _
  | x :: l, n => by
    have h1 := recsI_len l (IntKind.u16.wrap (x.ad + 1))
    have h2 := frontI_len x n
    rw [recsI, packI, List.length_append, List.length_append, List.length_cons]
    simp only [List.length_cons, List.length_nil]
    omega
theorem recsI_take {l : List Rc} {k : Nat} (h : k < l.length) : recsI (l.take (k + 1)) 0 = recsI (l.take k) 0 ++ packI (l.getD k default) (nxtI (l.take k) 0) := by
  rw [List.take_add_one, getD_get (d := default) h, recsI_app]
  show _ ++ (packI _ _ ++ []) = _
  rw [List.append_nil]
theorem nxtI_take {l : List Rc} {k : Nat} (h : k < l.length) : nxtI (l.take (k + 1)) 0 = IntKind.u16.wrap ((l.getD k default).ad + 1) := by
  rw [List.take_add_one, getD_get (d := default) h]
  exact nxtI_app _ _ _
def frontL (n : Nat) : List Int := [86, 84, 82, 49] ++ [IntKind.u8.wrap (n : Int), IntKind.u8.wrap (Int.fdiv (n : Int) (2 ^ min 8 64)), IntKind.u8.wrap (Int.fdiv (n : Int) (2 ^ min 16 64)), IntKind.u8.wrap (Int.fdiv (n : Int) (2 ^ min 24 64))]
def packP (l : List Rc) : List Int × Int := if chkL l = 0 then (frontL l.length ++ recsI l 0, 0) else ([], chkL l)
def PackR (l : List Rc) (L : Hp) (v : Value) (L' : Hp) : Prop := ∃ vo so, v = .tuple #[vo, .int .i64 (packP l).2] ∧ L' = so :: L ∧ RowI .u8 5 vo (packP l).1 so
set_option maxHeartbeats 1000000 in
set_option maxRecDepth 100000 in
theorem pack_spec {Γ : Ctx} (hP : Γ.P = Tryd.prog) {L : Hp} {i : Nat} {v : Value} {bs : List Int} {s : Slot} {x : Rc} {next : Int} (hi : L[i]? = some s) (hr : RowI .u8 5 v bs s) (hm : bs.length ≤ 100000000000) :
    SCall Γ 34 #[v, (.agg x.cells.toArray), (.int .u16 next)] L (fun v' L' => ∃ s', L' = L.set i s' ∧ RowI .u8 5 v' (bs ++ packI x next) s') := by
  obtain ⟨vA, vC, rfl, _, _⟩ := Row.form hr
  refine SCall.enter (n := 58) (res1 6) (hP ▸ Tryd.func34) rfl rfl (by simp) (res1_ok rfl) ?_
  refine SX.seq_k fun K1 hK1 => ?_
  refine SX.region_d [some 4, some 6] rfl (fun ops hops => ?_)
  unfold Dsts at hops
  simp (maxSteps:=1000000)(dsimp:=false)(disch:=omega) only [go_sem, Φa, hP, hops]
  intro b4
  try with_reducible refine stI ?_
  try simp (maxSteps:=1000000)(dsimp:=false)(disch:=omega) only [go_sem, Φa, hP, hops]
  refine hK1 _ _ ?_
  try clear hK1 K1
  refine SX.seq_k fun K2 hK2 => ?_
  refine SX.region_d [some 8, some 9, some 10, some 11, some 12, some 13, some 7] rfl (fun ops hops => ?_)
  unfold Dsts at hops
  simp (maxSteps:=1000000)(dsimp:=false)(disch:=omega) only [go_sem, Φa, hP, hops]
  refine ⟨_, Cell.at 0 rfl (show (Rc.cells _)[0]? = _ from rfl), ?_⟩
  try with_reducible refine stI ?_
  try simp (maxSteps:=1000000)(dsimp:=false)(disch:=omega) only [go_sem, Φa, hP, hops]
  refine ⟨_, Cell.at 0 rfl (show (Rc.cells _)[7]? = _ from rfl), ?_⟩
  try with_reducible refine stI ?_
  try simp (maxSteps:=1000000)(dsimp:=false)(disch:=omega) only [go_sem, Φa, hP, hops]
  refine hK2 _ _ ?_
  try clear hK2 K2
  refine SX.live [0, 2, 4, 7] (fun T1 hT1 => ?_)
  simp only [forall_mem_cons', forall_mem_nil', go_sem, Φa, hP] at hT1
  obtain ⟨h1_0, h1_2, h1_4, h1_7⟩ := hT1
  refine SX.live [0, 2, 4, 7] (fun T2 hT2 => ?_)
  simp only [forall_mem_cons', forall_mem_nil', go_sem, Φa, hP, h1_0, h1_2, h1_4, h1_7] at hT2
  obtain ⟨h2_0, h2_2, h2_4, h2_7⟩ := hT2
  clear h1_0 h1_2 h1_4 h1_7 T1
  refine SX.join (fun (ss : Unit) T L' => T 7 = .int .u8 (hd1 x) ∧ T 0 = T2 0 ∧ T 2 = T2 2 ∧ T 4 = T2 4 ∧ L' = some (b4, .cells x.cells.toArray 46 (0, 0)) :: L ∧ (True)) (fun K3 hK3 => ?_) ?_
  · simp only [h2_0, h2_2, h2_4] at hK3
    refine SX.seq_k fun K4 hK4 => ?_
    refine SX.region_d [some 14, some 15] rfl (fun ops hops => ?_)
    unfold Dsts at hops
    simp (maxSteps:=1000000)(dsimp:=false)(disch:=omega) only [go_sem, Φa, hP, h2_0, h2_2, h2_4, h2_7, hops]
    refine ⟨_, Cell.at 0 rfl (show (Rc.cells _)[3]? = _ from rfl), ?_⟩
    try with_reducible refine stI ?_
    try simp (maxSteps:=1000000)(dsimp:=false)(disch:=omega) only [go_sem, Φa, hP, h2_0, h2_2, h2_4, h2_7, hops]
    refine hK4 _ _ ?_
    try clear hK4 K4
    refine SX.cond_k fun X5 Y5 hX5 hY5 => ?_
    simp (maxSteps:=1000000)(dsimp:=false)(disch:=omega) only [go_sem, Φa, hP, h2_0, h2_2, h2_4, h2_7, condVC]
    refine ⟨fun hc15 => hX5 ?_, fun hc15 => hY5 ?_⟩
    · clear hX5 hY5 X5 Y5
      refine SX.region_d [some 16, some 17, some 7] rfl (fun ops hops => ?_)
      unfold Dsts at hops
      simp (maxSteps:=1000000)(dsimp:=false)(disch:=omega) only [go_sem, Φa, hP, h2_0, h2_2, h2_4, h2_7, hops]
      repeat' ((first | refine And.intro (by omega) ?_ | fail); try (with_reducible refine stI ?_); try simp (maxSteps:=1000000)(dsimp:=false)(disch:=omega) only [go_sem, Φa, hP, h2_0, h2_2, h2_4, h2_7, hops])
      refine hK3 () _ (some (b4, .cells x.cells.toArray 46 (0, 0)) :: L) _ (by first | exact Less.refl _ | exact Less.drop _ _ | exact Less.drops (Less.drop _ _) | exact Less.drops (Less.drops (Less.drop _ _)) | exact Less.drops (Less.drops (Less.drops (Less.drop _ _))) | exact Less.drops (Less.drops (Less.drops (Less.drops (Less.drop _ _))))) ?_
      try dsimp only
      refine ⟨?_, ?_, ?_, ?_, ?_, ?_⟩
      · simp (maxSteps:=1000000)(dsimp:=false)(disch:=omega) only [go_sem, Φa, hP, h2_0, h2_2, h2_4, h2_7]
        first | rfl | (unfold hd1; rw [if_pos hc15]; done) | (unfold hd1; rw [if_pos hc15]; rfl)
      · simp (maxSteps:=1000000)(dsimp:=false)(disch:=omega) only [go_sem, Φa, hP, h2_0, h2_2, h2_4, h2_7]
      · simp (maxSteps:=1000000)(dsimp:=false)(disch:=omega) only [go_sem, Φa, hP, h2_0, h2_2, h2_4, h2_7]
      · simp (maxSteps:=1000000)(dsimp:=false)(disch:=omega) only [go_sem, Φa, hP, h2_0, h2_2, h2_4, h2_7]
      · rfl
      · trivial
    · clear hX5 hY5 X5 Y5
      refine SX.skip ?_
      try simp only [andThen_normal, andThen_ret, andThen_exit, inBlk_normal, inBlk_ret, inBlk_exit, Nat.reduceEqDiff, if_true, if_false, ↓reduceIte]
      refine hK3 () _ (some (b4, .cells x.cells.toArray 46 (0, 0)) :: L) _ (by first | exact Less.refl _ | exact Less.drop _ _ | exact Less.drops (Less.drop _ _) | exact Less.drops (Less.drops (Less.drop _ _)) | exact Less.drops (Less.drops (Less.drops (Less.drop _ _))) | exact Less.drops (Less.drops (Less.drops (Less.drops (Less.drop _ _))))) ?_
      try dsimp only
      refine ⟨?_, ?_, ?_, ?_, ?_, ?_⟩
      · simp (maxSteps:=1000000)(dsimp:=false)(disch:=omega) only [go_sem, Φa, hP, h2_0, h2_2, h2_4, h2_7]
        first | rfl | (unfold hd1; rw [if_neg (by rw [hc15]; simp)]; done) | (unfold hd1; rw [if_neg (by rw [hc15]; simp)]; rfl)
      · simp (maxSteps:=1000000)(dsimp:=false)(disch:=omega) only [go_sem, Φa, hP, h2_0, h2_2, h2_4, h2_7]
      · simp (maxSteps:=1000000)(dsimp:=false)(disch:=omega) only [go_sem, Φa, hP, h2_0, h2_2, h2_4, h2_7]
      · simp (maxSteps:=1000000)(dsimp:=false)(disch:=omega) only [go_sem, Φa, hP, h2_0, h2_2, h2_4, h2_7]
      · rfl
      · trivial
  · intro ss T3 L3 hI
    simp only [h2_0, h2_2, h2_4] at hI 
    obtain ⟨h3_7, h3_0, h3_2, h3_4, hL3, hinv⟩ := hI
    replace hL3 := hL3.symm
    subst hL3
    clear h2_0 h2_2 h2_4 h2_7 T2
    refine SX.live [0, 2, 4, 7] (fun T4 hT4 => ?_)
    simp only [forall_mem_cons', forall_mem_nil', go_sem, Φa, hP, h3_7, h3_0, h3_2, h3_4] at hT4
    obtain ⟨h4_0, h4_2, h4_4, h4_7⟩ := hT4
    clear h3_7 h3_0 h3_2 h3_4 T3
    refine SX.join (fun (ss : Unit) T L' => T 7 = .int .u8 (hd2 x) ∧ T 0 = T4 0 ∧ T 2 = T4 2 ∧ T 4 = T4 4 ∧ L' = some (b4, .cells x.cells.toArray 46 (0, 0)) :: L ∧ (True)) (fun K6 hK6 => ?_) ?_
    · simp only [h4_0, h4_2, h4_4] at hK6
      refine SX.seq_k fun K7 hK7 => ?_
      refine SX.region_d [some 18, some 19] rfl (fun ops hops => ?_)
      unfold Dsts at hops
      simp (maxSteps:=1000000)(dsimp:=false)(disch:=omega) only [go_sem, Φa, hP, h4_0, h4_2, h4_4, h4_7, hops]
      refine ⟨_, Cell.at 0 rfl (show (Rc.cells _)[4]? = _ from rfl), ?_⟩
      try with_reducible refine stI ?_
      try simp (maxSteps:=1000000)(dsimp:=false)(disch:=omega) only [go_sem, Φa, hP, h4_0, h4_2, h4_4, h4_7, hops]
      refine hK7 _ _ ?_
      try clear hK7 K7
      refine SX.cond_k fun X8 Y8 hX8 hY8 => ?_
      simp (maxSteps:=1000000)(dsimp:=false)(disch:=omega) only [go_sem, Φa, hP, h4_0, h4_2, h4_4, h4_7, condVC]
      refine ⟨fun hc19 => hX8 ?_, fun hc19 => hY8 ?_⟩
      · clear hX8 hY8 X8 Y8
        refine SX.region_d [some 20, some 21, some 7] rfl (fun ops hops => ?_)
        unfold Dsts at hops
        simp (maxSteps:=1000000)(dsimp:=false)(disch:=omega) only [go_sem, Φa, hP, h4_0, h4_2, h4_4, h4_7, hops]
        repeat' ((first | refine And.intro (by omega) ?_ | fail); try (with_reducible refine stI ?_); try simp (maxSteps:=1000000)(dsimp:=false)(disch:=omega) only [go_sem, Φa, hP, h4_0, h4_2, h4_4, h4_7, hops])
        refine hK6 () _ (some (b4, .cells x.cells.toArray 46 (0, 0)) :: L) _ (by first | exact Less.refl _ | exact Less.drop _ _ | exact Less.drops (Less.drop _ _) | exact Less.drops (Less.drops (Less.drop _ _)) | exact Less.drops (Less.drops (Less.drops (Less.drop _ _))) | exact Less.drops (Less.drops (Less.drops (Less.drops (Less.drop _ _))))) ?_
        try dsimp only
        refine ⟨?_, ?_, ?_, ?_, ?_, ?_⟩
        · simp (maxSteps:=1000000)(dsimp:=false)(disch:=omega) only [go_sem, Φa, hP, h4_0, h4_2, h4_4, h4_7]
          first | rfl | (unfold hd2; rw [if_pos hc19]; done) | (unfold hd2; rw [if_pos hc19]; rfl)
        · simp (maxSteps:=1000000)(dsimp:=false)(disch:=omega) only [go_sem, Φa, hP, h4_0, h4_2, h4_4, h4_7]
        · simp (maxSteps:=1000000)(dsimp:=false)(disch:=omega) only [go_sem, Φa, hP, h4_0, h4_2, h4_4, h4_7]
        · simp (maxSteps:=1000000)(dsimp:=false)(disch:=omega) only [go_sem, Φa, hP, h4_0, h4_2, h4_4, h4_7]
        · rfl
        · trivial
      · clear hX8 hY8 X8 Y8
        refine SX.skip ?_
        try simp only [andThen_normal, andThen_ret, andThen_exit, inBlk_normal, inBlk_ret, inBlk_exit, Nat.reduceEqDiff, if_true, if_false, ↓reduceIte]
        refine hK6 () _ (some (b4, .cells x.cells.toArray 46 (0, 0)) :: L) _ (by first | exact Less.refl _ | exact Less.drop _ _ | exact Less.drops (Less.drop _ _) | exact Less.drops (Less.drops (Less.drop _ _)) | exact Less.drops (Less.drops (Less.drops (Less.drop _ _))) | exact Less.drops (Less.drops (Less.drops (Less.drops (Less.drop _ _))))) ?_
        try dsimp only
        refine ⟨?_, ?_, ?_, ?_, ?_, ?_⟩
        · simp (maxSteps:=1000000)(dsimp:=false)(disch:=omega) only [go_sem, Φa, hP, h4_0, h4_2, h4_4, h4_7]
          first | rfl | (unfold hd2; rw [if_neg (by rw [hc19]; simp)]; done) | (unfold hd2; rw [if_neg (by rw [hc19]; simp)]; rfl)
        · simp (maxSteps:=1000000)(dsimp:=false)(disch:=omega) only [go_sem, Φa, hP, h4_0, h4_2, h4_4, h4_7]
        · simp (maxSteps:=1000000)(dsimp:=false)(disch:=omega) only [go_sem, Φa, hP, h4_0, h4_2, h4_4, h4_7]
        · simp (maxSteps:=1000000)(dsimp:=false)(disch:=omega) only [go_sem, Φa, hP, h4_0, h4_2, h4_4, h4_7]
        · rfl
        · trivial
    · intro ss T5 L5 hI
      simp only [h4_0, h4_2, h4_4] at hI 
      obtain ⟨h5_7, h5_0, h5_2, h5_4, hL5, hinv⟩ := hI
      replace hL5 := hL5.symm
      subst hL5
      clear h4_0 h4_2 h4_4 h4_7 T4
      refine SX.live [0, 2, 4, 7] (fun T6 hT6 => ?_)
      simp only [forall_mem_cons', forall_mem_nil', go_sem, Φa, hP, h5_7, h5_0, h5_2, h5_4] at hT6
      obtain ⟨h6_0, h6_2, h6_4, h6_7⟩ := hT6
      clear h5_7 h5_0 h5_2 h5_4 T5
      refine SX.join (fun (ss : Unit) T L' => T 7 = .int .u8 (hd3 x) ∧ T 0 = T6 0 ∧ T 2 = T6 2 ∧ T 4 = T6 4 ∧ L' = some (b4, .cells x.cells.toArray 46 (0, 0)) :: L ∧ (True)) (fun K9 hK9 => ?_) ?_
      · simp only [h6_0, h6_2, h6_4] at hK9
        refine SX.seq_k fun K10 hK10 => ?_
        refine SX.region_d [some 22, some 23] rfl (fun ops hops => ?_)
        unfold Dsts at hops
        simp (maxSteps:=1000000)(dsimp:=false)(disch:=omega) only [go_sem, Φa, hP, h6_0, h6_2, h6_4, h6_7, hops]
        refine ⟨_, Cell.at 0 rfl (show (Rc.cells _)[6]? = _ from rfl), ?_⟩
        try with_reducible refine stI ?_
        try simp (maxSteps:=1000000)(dsimp:=false)(disch:=omega) only [go_sem, Φa, hP, h6_0, h6_2, h6_4, h6_7, hops]
        refine hK10 _ _ ?_
        try clear hK10 K10
        refine SX.cond_k fun X11 Y11 hX11 hY11 => ?_
        simp (maxSteps:=1000000)(dsimp:=false)(disch:=omega) only [go_sem, Φa, hP, h6_0, h6_2, h6_4, h6_7, condVC]
        refine ⟨fun hc23 => hX11 ?_, fun hc23 => hY11 ?_⟩
        · clear hX11 hY11 X11 Y11
          refine SX.region_d [some 24, some 25, some 7] rfl (fun ops hops => ?_)
          unfold Dsts at hops
          simp (maxSteps:=1000000)(dsimp:=false)(disch:=omega) only [go_sem, Φa, hP, h6_0, h6_2, h6_4, h6_7, hops]
          repeat' ((first | refine And.intro (by omega) ?_ | fail); try (with_reducible refine stI ?_); try simp (maxSteps:=1000000)(dsimp:=false)(disch:=omega) only [go_sem, Φa, hP, h6_0, h6_2, h6_4, h6_7, hops])
          refine hK9 () _ (some (b4, .cells x.cells.toArray 46 (0, 0)) :: L) _ (by first | exact Less.refl _ | exact Less.drop _ _ | exact Less.drops (Less.drop _ _) | exact Less.drops (Less.drops (Less.drop _ _)) | exact Less.drops (Less.drops (Less.drops (Less.drop _ _))) | exact Less.drops (Less.drops (Less.drops (Less.drops (Less.drop _ _))))) ?_
          try dsimp only
          refine ⟨?_, ?_, ?_, ?_, ?_, ?_⟩
          · simp (maxSteps:=1000000)(dsimp:=false)(disch:=omega) only [go_sem, Φa, hP, h6_0, h6_2, h6_4, h6_7]
            first | rfl | (unfold hd3; rw [if_pos hc23]; done) | (unfold hd3; rw [if_pos hc23]; rfl)
          · simp (maxSteps:=1000000)(dsimp:=false)(disch:=omega) only [go_sem, Φa, hP, h6_0, h6_2, h6_4, h6_7]
          · simp (maxSteps:=1000000)(dsimp:=false)(disch:=omega) only [go_sem, Φa, hP, h6_0, h6_2, h6_4, h6_7]
          · simp (maxSteps:=1000000)(dsimp:=false)(disch:=omega) only [go_sem, Φa, hP, h6_0, h6_2, h6_4, h6_7]
          · rfl
          · trivial
        · clear hX11 hY11 X11 Y11
          refine SX.skip ?_
          try simp only [andThen_normal, andThen_ret, andThen_exit, inBlk_normal, inBlk_ret, inBlk_exit, Nat.reduceEqDiff, if_true, if_false, ↓reduceIte]
          refine hK9 () _ (some (b4, .cells x.cells.toArray 46 (0, 0)) :: L) _ (by first | exact Less.refl _ | exact Less.drop _ _ | exact Less.drops (Less.drop _ _) | exact Less.drops (Less.drops (Less.drop _ _)) | exact Less.drops (Less.drops (Less.drops (Less.drop _ _))) | exact Less.drops (Less.drops (Less.drops (Less.drops (Less.drop _ _))))) ?_
          try dsimp only
          refine ⟨?_, ?_, ?_, ?_, ?_, ?_⟩
          · simp (maxSteps:=1000000)(dsimp:=false)(disch:=omega) only [go_sem, Φa, hP, h6_0, h6_2, h6_4, h6_7]
            first | rfl | (unfold hd3; rw [if_neg (by rw [hc23]; simp)]; done) | (unfold hd3; rw [if_neg (by rw [hc23]; simp)]; rfl)
          · simp (maxSteps:=1000000)(dsimp:=false)(disch:=omega) only [go_sem, Φa, hP, h6_0, h6_2, h6_4, h6_7]
          · simp (maxSteps:=1000000)(dsimp:=false)(disch:=omega) only [go_sem, Φa, hP, h6_0, h6_2, h6_4, h6_7]
          · simp (maxSteps:=1000000)(dsimp:=false)(disch:=omega) only [go_sem, Φa, hP, h6_0, h6_2, h6_4, h6_7]
          · rfl
          · trivial
      · intro ss T7 L7 hI
        simp only [h6_0, h6_2, h6_4] at hI 
        obtain ⟨h7_7, h7_0, h7_2, h7_4, hL7, hinv⟩ := hI
        replace hL7 := hL7.symm
        subst hL7
        clear h6_0 h6_2 h6_4 h6_7 T6
        refine SX.live [0, 2, 4, 7] (fun T8 hT8 => ?_)
        simp only [forall_mem_cons', forall_mem_nil', go_sem, Φa, hP, h7_7, h7_0, h7_2, h7_4] at hT8
        obtain ⟨h8_0, h8_2, h8_4, h8_7⟩ := hT8
        clear h7_7 h7_0 h7_2 h7_4 T7
        refine SX.join (fun (ss : (Value) × (Slot)) T L' => (fun (v2 : Value) (s2 : Slot) => T 0 = v2 ∧ T 4 = T8 4 ∧ L' = some (b4, .cells x.cells.toArray 46 (0, 0)) :: L.set i s2 ∧ (RowI .u8 5 v2 (bs ++ frontI x next) s2)) (ss.1) (ss.2)) (fun K12 hK12 => ?_) ?_
        · simp only [h8_4] at hK12
          refine SX.seq_k fun K13 hK13 => ?_
          refine SX.region_xd [some 26, some 27, some 28, some 29, some 30, some 31, some 32, some 33, some 34] rfl (fun ops hops => ?_)
          unfold Dsts at hops
          refine RX.live [0, 2, 4, 7] (fun T9 hT9 => ?_)
          simp only [forall_mem_cons', forall_mem_nil', go_sem, Φa, hP, h8_0, h8_2, h8_4, h8_7] at hT9
          obtain ⟨h9_0, h9_2, h9_4, h9_7⟩ := hT9
          clear h8_0 h8_2 h8_4 h8_7 T8
          refine RX.join 9 (fun (ss : Unit) T L' => T 34 = .bool (farB x next) ∧ T 0 = T9 0 ∧ T 4 = T9 4 ∧ T 7 = T9 7 ∧ L' = some (b4, .cells x.cells.toArray 46 (0, 0)) :: L ∧ (True)) (fun K14 hK14 => ?_) ?_
          · simp only [h9_0, h9_4, h9_7] at hK14
            simp (maxSteps:=1000000)(dsimp:=false)(disch:=omega) only [go_sem, Φa, hP, h9_0, h9_2, h9_4, h9_7, hops]
            repeat' (first | refine iteB (fun hg => ?_) (fun hg => ?_) | refine iteI (fun hg => ?_) (fun hg => ?_) | ((first | refine ⟨_, Cell.at 0 rfl (show (Rc.cells _)[1]? = _ from rfl), ?_⟩ | refine ⟨_, Cell.at 0 rfl (show (Rc.cells _)[5]? = _ from rfl), ?_⟩ | refine And.intro (by omega) ?_ | refine ⟨_, Cell.at 0 rfl rfl, ?_⟩ | fail); try (with_reducible refine stI ?_); try simp (maxSteps:=1000000)(dsimp:=false)(disch:=omega) only [go_sem, Φa, hP, h9_0, h9_2, h9_4, h9_7, hops]) | fail)
            all_goals
              refine hK14 () _ (some (b4, .cells x.cells.toArray 46 (0, 0)) :: L) _ (by first | exact Less.refl _ | exact Less.drop _ _ | exact Less.drops (Less.drop _ _) | exact Less.drops (Less.drops (Less.drop _ _)) | exact Less.drops (Less.drops (Less.drops (Less.drop _ _))) | exact Less.drops (Less.drops (Less.drops (Less.drops (Less.drop _ _))))) ?_
              try dsimp only
              refine ⟨?_, ?_, ?_, ?_, ?_, ?_⟩
              · simp (maxSteps:=1000000)(dsimp:=false)(disch:=omega) only [go_sem, Φa, hP, h9_0, h9_2, h9_4, h9_7]
                first | done | (refine congrArg Value.bool ?_; simp_all [farB]; done)
              · simp (maxSteps:=1000000)(dsimp:=false)(disch:=omega) only [go_sem, Φa, hP, h9_0, h9_2, h9_4, h9_7]
              · simp (maxSteps:=1000000)(dsimp:=false)(disch:=omega) only [go_sem, Φa, hP, h9_0, h9_2, h9_4, h9_7]
              · simp (maxSteps:=1000000)(dsimp:=false)(disch:=omega) only [go_sem, Φa, hP, h9_0, h9_2, h9_4, h9_7]
              · rfl
              · trivial
          · intro ss T10 L10 hI
            simp only [h9_0, h9_4, h9_7] at hI 
            obtain ⟨h10_34, h10_0, h10_4, h10_7, hL10, hinv⟩ := hI
            replace hL10 := hL10.symm
            subst hL10
            clear h9_0 h9_2 h9_4 h9_7 T9
            refine RX.done ?_
            simp (maxSteps:=1000000)(dsimp:=false)(disch:=omega) only [go_sem, Φa, hP, h10_34, h10_0, h10_4, h10_7, hops]
            refine hK13 _ _ ?_
            try clear hK13 K13
            refine SX.cond_k fun X15 Y15 hX15 hY15 => ?_
            simp (maxSteps:=1000000)(dsimp:=false)(disch:=omega) only [go_sem, Φa, hP, h10_34, h10_0, h10_4, h10_7, condVC]
            refine ⟨fun hc34 => hX15 ?_, fun hc34 => hY15 ?_⟩
            · clear hX15 hY15 X15 Y15
              refine SX.region_d [some 35, some 36, some 37, some 38, some 39, some 40, some 41, some 42, some 43, some 44, some 45, some 46, some 47, some 48, some 0] rfl (fun ops hops => ?_)
              unfold Dsts at hops
              simp (maxSteps:=1000000)(dsimp:=false)(disch:=omega) only [go_sem, Φa, hP, h10_34, h10_0, h10_4, h10_7, hops]
              refine ⟨_, Cell.at 0 rfl (show (Rc.cells _)[5]? = _ from rfl), ?_⟩
              try with_reducible refine stI ?_
              try simp (maxSteps:=1000000)(dsimp:=false)(disch:=omega) only [go_sem, Φa, hP, h10_34, h10_0, h10_4, h10_7, hops]
              refine ⟨_, Cell.at 0 rfl (show (Rc.cells _)[1]? = _ from rfl), ?_⟩
              try with_reducible refine stI ?_
              try simp (maxSteps:=1000000)(dsimp:=false)(disch:=omega) only [go_sem, Φa, hP, h10_34, h10_0, h10_4, h10_7, hops]
              refine ⟨_, Cell.at 0 rfl (show (Rc.cells _)[1]? = _ from rfl), ?_⟩
              try with_reducible refine stI ?_
              try simp (maxSteps:=1000000)(dsimp:=false)(disch:=omega) only [go_sem, Φa, hP, h10_34, h10_0, h10_4, h10_7, hops]
              intro g47
              try with_reducible refine stI ?_
              try simp (maxSteps:=1000000)(dsimp:=false)(disch:=omega) only [go_sem, Φa, hP, h10_34, h10_0, h10_4, h10_7, hops]
              refine YAppend.ints (i := i + 2) (m := [bits .or .u8 (hd3 x) 128, x.port, IntKind.u8.wrap x.ad, IntKind.u8.wrap (Int.fdiv x.ad (2 ^ min 8 16))]) (hP ▸ T.elS_30) (hP ▸ T.zr_5) rfl hi hr (SlI.own 0 rfl rfl (Nat.le_refl _)) (by simp only [List.length_cons, List.length_nil]; omega) (by decide) ?_
              intro v' s' hr'
              obtain ⟨A', c', rfl, _, _⟩ := Row.form hr'
              try with_reducible refine stI ?_
              try simp (maxSteps:=1000000)(dsimp:=false)(disch:=omega) only [go_sem, Φa, hP, h10_34, h10_0, h10_4, h10_7, hops]
              refine hK12 (.slice A' (bs ++ [bits .or .u8 (hd3 x) 128, x.port, IntKind.u8.wrap x.ad, IntKind.u8.wrap (Int.fdiv x.ad (2 ^ min 8 16))]).length c', s') _ (some (b4, .cells x.cells.toArray 46 (0, 0)) :: L.set i s') _ (by exact Less.drop _ _) ?_
              try dsimp only
              refine ⟨?_, ?_, ?_, ?_⟩
              · simp (maxSteps:=1000000)(dsimp:=false)(disch:=omega) only [go_sem, Φa, hP, h10_34, h10_0, h10_4, h10_7]
                first | done | rfl | skip
              · simp (maxSteps:=1000000)(dsimp:=false)(disch:=omega) only [go_sem, Φa, hP, h10_34, h10_0, h10_4, h10_7]
              · rfl
              · unfold frontI; rw [if_pos (by simpa using hc34)]; exact hr'
            · clear hX15 hY15 X15 Y15
              refine SX.region_d [some 49, some 50, some 51, some 52, some 0] rfl (fun ops hops => ?_)
              unfold Dsts at hops
              simp (maxSteps:=1000000)(dsimp:=false)(disch:=omega) only [go_sem, Φa, hP, h10_34, h10_0, h10_4, h10_7, hops]
              intro g51
              try with_reducible refine stI ?_
              try simp (maxSteps:=1000000)(dsimp:=false)(disch:=omega) only [go_sem, Φa, hP, h10_34, h10_0, h10_4, h10_7, hops]
              refine YAppend.int1 (i := i + 1) (hP ▸ T.elS_30) (hP ▸ T.zr_5) rfl hi hr (by omega) (by decide) ?_
              intro v' s' hr'
              obtain ⟨A', c', rfl, _, _⟩ := Row.form hr'
              try with_reducible refine stI ?_
              try simp (maxSteps:=1000000)(dsimp:=false)(disch:=omega) only [go_sem, Φa, hP, h10_34, h10_0, h10_4, h10_7, hops]
              refine hK12 (.slice A' (bs ++ [hd3 x]).length c', s') _ (some (b4, .cells x.cells.toArray 46 (0, 0)) :: L.set i s') _ (by exact Less.drop _ _) ?_
              try dsimp only
              refine ⟨?_, ?_, ?_, ?_⟩
              · simp (maxSteps:=1000000)(dsimp:=false)(disch:=omega) only [go_sem, Φa, hP, h10_34, h10_0, h10_4, h10_7]
                first | done | rfl | skip
              · simp (maxSteps:=1000000)(dsimp:=false)(disch:=omega) only [go_sem, Φa, hP, h10_34, h10_0, h10_4, h10_7]
              · rfl
              · unfold frontI; rw [if_neg (by simpa using hc34)]; exact hr'
        · intro ss T11 L11 hI
          obtain ⟨v2, s2⟩ := ss
          try dsimp only at hI 
          simp only [h8_4] at hI 
          obtain ⟨h11_0, h11_4, hL11, hr2⟩ := hI
          replace hL11 := hL11.symm
          subst hL11
          clear h8_0 h8_2 h8_4 h8_7 T8
          refine SX.seq_k fun K16 hK16 => ?_
          obtain ⟨oA, oC, rfl, _, _⟩ := Row.form hr2
          have hfl := frontI_len x next
          refine SX.region_d [some 53, some 54, some 55, some 56, some 57, some 6] rfl (fun ops hops => ?_)
          unfold Dsts at hops
          simp (maxSteps:=1000000)(dsimp:=false)(disch:=omega) only [go_sem, Φa, hP, h11_0, h11_4, hops]
          refine ⟨_, Cell.at 0 rfl (show (Rc.cells _)[2]? = _ from rfl), ?_⟩
          try with_reducible refine stI ?_
          try simp (maxSteps:=1000000)(dsimp:=false)(disch:=omega) only [go_sem, Φa, hP, h11_0, h11_4, hops]
          intro g56
          try with_reducible refine stI ?_
          try simp (maxSteps:=1000000)(dsimp:=false)(disch:=omega) only [go_sem, Φa, hP, h11_0, h11_4, hops]
          refine YAppend.int1 (i := i + 1) (hP ▸ T.elS_30) (hP ▸ T.zr_5) rfl (get_set hi) hr2 (by rw [List.length_append]; omega) (by decide) ?_
          intro v' s' hr'
          obtain ⟨A', c', rfl, _, _⟩ := Row.form hr'
          try with_reducible refine stI ?_
          try simp (maxSteps:=1000000)(dsimp:=false)(disch:=omega) only [go_sem, Φa, hP, h11_0, h11_4, hops]
          refine hK16 _ _ ?_
          try clear hK16 K16
          refine SX.ret ?_
          simp only [andThen_normal, andThen_ret, andThen_exit, inBlk_normal, inBlk_ret, inBlk_exit, Nat.reduceEqDiff, if_true, if_false, ↓reduceIte, retQ_ret]
          try simp only [res0, res1, res2, res3, stK_e, go_sem, Φa, hP, h11_0, h11_4]
          refine ⟨_, _, Less.drops (Less.drop _ _), rfl, s', by rw [List.set_set], ?_⟩
          rw [packI, ← List.append_assoc]
          exact hr'
set_option maxHeartbeats 1000000 in
set_option maxRecDepth 100000 in
theorem Pack_spec {Γ : Ctx} (hP : Γ.P = Tryd.prog) {L : Hp} {v : Value} {l : List Rc} (hl : SlC (Cell Γ L) v l) :
    SCall Γ 15 #[v] L (PackR l L) := by
  obtain ⟨A, c, rfl, hc⟩ := Sl.shape hl
  obtain ⟨a1, e1, _, hA⟩ := Sl.at1 hl
  refine SCall.enter (n := 47) (res2 2 3) (hP ▸ Tryd.func15) rfl rfl (by simp) (res2_ok rfl) ?_
  refine SX.seq_k fun K1 hK1 => ?_
  refine SX.region_d [some 2, some 3] rfl (fun ops hops => ?_)
  unfold Dsts at hops
  simp (maxSteps:=1000000)(dsimp:=false)(disch:=omega) only [go_sem, Φa, hP, hops]
  refine hK1 _ _ ?_
  try clear hK1 K1
  refine SX.seq_k fun K2 hK2 => ?_
  refine SX.seq_k fun K3 hK3 => ?_
  refine SX.region_d [some 10, some 11, some 4] rfl (fun ops hops => ?_)
  unfold Dsts at hops
  simp (maxSteps:=1000000)(dsimp:=false)(disch:=omega) only [go_sem, Φa, hP, hops]
  refine SCall.mono (check_spec hP hl) ?_
  rintro v_ L_ ⟨hv_, hL_⟩
  rw [hv_, hL_]
  clear hv_ hL_ v_ L_
  try with_reducible refine stI ?_
  try simp (maxSteps:=1000000)(dsimp:=false)(disch:=omega) only [go_sem, Φa, hP, hops]
  refine hK3 _ _ ?_
  try clear hK3 K3
  refine SX.seq_k fun K4 hK4 => ?_
  refine SX.region_d [some 12, some 13] rfl (fun ops hops => ?_)
  unfold Dsts at hops
  simp (maxSteps:=1000000)(dsimp:=false)(disch:=omega) only [go_sem, Φa, hP, hops]
  repeat' ((first | refine And.intro (by omega) ?_ | fail); try (with_reducible refine stI ?_); try simp (maxSteps:=1000000)(dsimp:=false)(disch:=omega) only [go_sem, Φa, hP, hops])
  refine hK4 _ _ ?_
  try clear hK4 K4
  refine SX.cond_k fun X5 Y5 hX5 hY5 => ?_
  simp (maxSteps:=1000000)(dsimp:=false)(disch:=omega) only [go_sem, Φa, hP, condVC]
  refine ⟨fun hc13 => hX5 ?_, fun hc13 => hY5 ?_⟩
  · clear hX5 hY5 X5 Y5
    refine SX.seq_k fun K6 hK6 => ?_
    refine SX.region_d [some 14, some 2, some 3] rfl (fun ops hops => ?_)
    unfold Dsts at hops
    simp (maxSteps:=1000000)(dsimp:=false)(disch:=omega) only [go_sem, Φa, hP, hops]
    refine hK6 _ _ ?_
    try clear hK6 K6
    refine SX.ret ?_
    simp only [andThen_normal, andThen_ret, andThen_exit, inBlk_normal, inBlk_ret, inBlk_exit, Nat.reduceEqDiff, if_true, if_false, ↓reduceIte, retQ_ret]
    try simp only [res0, res1, res2, res3, stK_e, go_sem, Φa, hP]
    have hp : packP l = ([], chkL l) := if_neg (by simpa using hc13)
    exact ⟨_, _, Less.none _, rfl, .slice none 0 0, none, by rw [hp], rfl, by rw [hp]; exact Row.nil _ _⟩
  · clear hX5 hY5 X5 Y5
    refine SX.skip ?_
    try simp only [andThen_normal, andThen_ret, andThen_exit, inBlk_normal, inBlk_ret, inBlk_exit, Nat.reduceEqDiff, if_true, if_false, ↓reduceIte]
    refine hK2 _ _ ?_
    try clear hK2 K2
    refine SX.seq_k fun K7 hK7 => ?_
    have hc0 : chkL l = 0 := by simpa using hc13
    obtain ⟨hll, hlm⟩ := chkL_zero hc0
    refine SX.region_d [some 15, some 16, some 5] rfl (fun ops hops => ?_)
    unfold Dsts at hops
    simp (maxSteps:=1000000)(dsimp:=false)(disch:=omega) only [go_sem, Φa, hP, hops]
    repeat' ((first | refine And.intro (by omega) ?_ | fail); try (with_reducible refine stI ?_); try simp (maxSteps:=1000000)(dsimp:=false)(disch:=omega) only [go_sem, Φa, hP, hops])
    refine hK7 _ _ ?_
    try clear hK7 K7
    refine SX.live [0, 5] (fun T1 hT1 => ?_)
    simp only [forall_mem_cons', forall_mem_nil', go_sem, Φa, hP] at hT1
    obtain ⟨h1_0, h1_5⟩ := hT1
    refine SX.seq_k fun K8 hK8 => ?_
    refine SX.region_xd [some 17, some 18, some 19, some 20, some 21, some 22, some 23, some 24, some 25, some 26, some 27, some 28, some 29, some 30, some 31, some 6] rfl (fun ops hops => ?_)
    unfold Dsts at hops
    refine RX.cut_k 1 fun K9 hK9 => ?_
    simp (maxSteps:=1000000)(dsimp:=false)(disch:=omega) only [go_sem, Φa, hP, h1_0, h1_5, hops]
    intro g17
    try with_reducible refine stI ?_
    try simp (maxSteps:=1000000)(dsimp:=false)(disch:=omega) only [go_sem, Φa, hP, h1_0, h1_5, hops]
    refine hK9 _ _ ?_
    try clear hK9 K9
    refine RX.marked (i := 0) (C := ints .u8 [86, 84, 82, 49]) (m := 4) (c := 4) (g := g17) rfl rfl (by simp [ev, upd_app]) (hP ▸ Tryd.underlying30) (hP ▸ Tryd.underlying5) rfl (putVC_mk (by decide) ?_)
    refine RX.done ?_
    simp (maxSteps:=1000000)(dsimp:=false)(disch:=omega) only [go_sem, Φa, hP, h1_0, h1_5, hops]
    intro g30
    try with_reducible refine stI ?_
    try simp (maxSteps:=1000000)(dsimp:=false)(disch:=omega) only [go_sem, Φa, hP, h1_0, h1_5, hops]
    refine YAppend.both (olds := ints .u8 [86, 84, 82, 49]) (ys := ints .u8 [IntKind.u8.wrap (l.length : Int), IntKind.u8.wrap (Int.fdiv (l.length : Int) (2 ^ min 8 64)), IntKind.u8.wrap (Int.fdiv (l.length : Int) (2 ^ min 16 64)), IntKind.u8.wrap (Int.fdiv (l.length : Int) (2 ^ min 24 64))]) (m := 4) (hP ▸ T.elS_30) (hP ▸ T.zr_5) rfl (SrcV.lit (by rw [hP, T.elS_30]; rfl) rfl rfl) rfl (fun j u hj => ⟨_, rfl, by rw [Addr.add_lit, Nat.zero_add]; exact Cell.at 1 rfl hj⟩) (fun h => by cases h) (by decide) (by decide) (fun h => absurd h (by decide)) ?_
    intro _ g31 cap' junk hc1 hc2 hjl
    try with_reducible refine stI ?_
    try simp (maxSteps:=1000000)(dsimp:=false)(disch:=omega) only [go_sem, Φa, hP, h1_0, h1_5, hops]
    refine hK8 _ _ ?_
    try clear hK8 K8
    refine SX.live [0, 6] (fun T2 hT2 => ?_)
    simp only [forall_mem_cons', forall_mem_nil', go_sem, Φa, hP, h1_0, h1_5] at hT2
    obtain ⟨h2_0, h2_6⟩ := hT2
    clear h1_0 h1_5 T1
    refine SX.seq_k fun K10 hK10 => ?_
    refine SX.region_d [some 7] rfl (fun ops hops => ?_)
    unfold Dsts at hops
    simp (maxSteps:=1000000)(dsimp:=false)(disch:=omega) only [go_sem, Φa, hP, h2_0, h2_6, hops]
    refine hK10 _ _ ?_
    try clear hK10 K10
    refine SX.seq_k fun K11 hK11 => ?_
    refine SX.seq_k fun K12 hK12 => ?_
    refine SX.region_d [some 32, some 33, some 34] rfl (fun ops hops => ?_)
    unfold Dsts at hops
    simp (maxSteps:=1000000)(dsimp:=false)(disch:=omega) only [go_sem, Φa, hP, h2_0, h2_6, hops]
    repeat' ((first | refine And.intro (by omega) ?_ | fail); try (with_reducible refine stI ?_); try simp (maxSteps:=1000000)(dsimp:=false)(disch:=omega) only [go_sem, Φa, hP, h2_0, h2_6, hops])
    refine hK12 _ _ ?_
    try clear hK12 K12
    refine SX.block ?_
    refine SX.less (L' := some (g31, .cells (ints .u8 (frontL l.length) ++ junk).toArray 5 (0, 0)) :: L) (Less.sublist (.cons_cons _ (.cons _ (.cons _ (List.Sublist.refl _))))) ?_
    refine SX.live [6, 7, 32, 33, 34] (fun T3 hT3 => ?_)
    simp only [forall_mem_cons', forall_mem_nil', go_sem, Φa, hP, h2_0, h2_6] at hT3
    obtain ⟨h3_6, h3_7, h3_32, h3_33, h3_34⟩ := hT3
    clear h2_0 h2_6 T2
    refine SX.loop_k (fun (ss : (Nat) × (Value) × (Slot)) T L' => (fun (k : Nat) (vo : Value) (so : Slot) => T 6 = vo ∧ T 7 = .int .u16 (nxtI (l.take k) 0) ∧ T 34 = .int .i64 (k : Int) ∧ T 32 = T3 32 ∧ T 33 = T3 33 ∧ L' = so :: L ∧ (k ≤ l.length ∧ RowI .u8 5 vo (frontL l.length ++ recsI (l.take k) 0) so)) (ss.1) (ss.2.1) (ss.2.2)) (fun (ss : (Nat) × (Value) × (Slot)) => (fun (k : Nat) (vo : Value) (so : Slot) => l.length - k) (ss.1) (ss.2.1) (ss.2.2)) (0, .slice (some ⟨g31, 0, none⟩) 8 cap', some (g31, .cells (ints .u8 (frontL l.length) ++ junk).toArray 5 (0, 0))) ?_ ?_
    · try dsimp only
      refine ⟨?_, ?_, ?_, ?_, ?_, ?_, ?_⟩
      · first | exact h3_6 | (rw [h3_6]; rfl) | (rw [h3_6]; simp; done)
      · first | exact h3_7 | (rw [h3_7]; rfl) | (rw [h3_7]; simp; done)
      · first | exact h3_34 | (rw [h3_34]; rfl) | (rw [h3_34]; simp; done)
      · rfl
      · rfl
      · rfl
      · exact ⟨Nat.zero_le _, by rw [List.take_zero]; show RowI _ _ _ (frontL l.length ++ []) _; rw [List.append_nil]; exact ⟨rfl, .inr ⟨g31, cap', junk, rfl, rfl, ⟨hc1, hc2⟩, by rw [List.length_append, hjl]; show 8 + (cap' - 8) * 1 = cap' * 1; omega⟩⟩⟩
    · intro ss T4 L4 hI K13 hK13
      obtain ⟨k, vo, so⟩ := ss
      try dsimp only at hI hK13
      simp only [h3_32, h3_33] at hI hK13
      obtain ⟨h4_6, h4_7, h4_34, h4_32, h4_33, hL4, ⟨hk, hrow⟩⟩ := hI
      replace hL4 := hL4.symm
      subst hL4
      clear h3_6 h3_7 h3_32 h3_33 h3_34 T3
      refine SX.seq_k fun K14 hK14 => ?_
      refine SX.region_d [some 35] rfl (fun ops hops => ?_)
      unfold Dsts at hops
      simp (maxSteps:=1000000)(dsimp:=false)(disch:=omega) only [go_sem, Φa, hP, h4_6, h4_7, h4_34, h4_32, h4_33, hops]
      repeat' ((first | refine And.intro (by omega) ?_ | fail); try (with_reducible refine stI ?_); try simp (maxSteps:=1000000)(dsimp:=false)(disch:=omega) only [go_sem, Φa, hP, h4_6, h4_7, h4_34, h4_32, h4_33, hops])
      refine hK14 _ _ ?_
      try clear hK14 K14
      refine SX.seq_k fun K15 hK15 => ?_
      refine SX.cond_k fun X16 Y16 hX16 hY16 => ?_
      simp (maxSteps:=1000000)(dsimp:=false)(disch:=omega) only [go_sem, Φa, hP, h4_6, h4_7, h4_34, h4_32, h4_33, condVC]
      refine ⟨fun hc35 => hX16 ?_, fun hc35 => hY16 ?_⟩
      · clear hX16 hY16 X16 Y16
        refine SX.skip ?_
        try simp only [andThen_normal, andThen_ret, andThen_exit, inBlk_normal, inBlk_ret, inBlk_exit, Nat.reduceEqDiff, if_true, if_false, ↓reduceIte]
        refine hK15 _ _ ?_
        try clear hK15 K15
        refine SX.seq_k fun K17 hK17 => ?_
        refine SX.block ?_
        refine SX.seq_k fun K18 hK18 => ?_
        have hkl : k < l.length := by omega
        have hck := hA k _ (getD_get (d := default) hkl)
        refine SX.region_d [some 36, some 37, some 9, none] rfl (fun ops hops => ?_)
        unfold Dsts at hops
        simp (maxSteps:=1000000)(dsimp:=false)(disch:=omega) only [go_sem, Φa, hP, h4_6, h4_7, h4_34, h4_32, h4_33, hops, ia_at e1]
        refine ⟨_, Cell.cons _ (hck 0 _ rfl), _, Cell.cons _ (hck 1 _ rfl), _, Cell.cons _ (hck 2 _ rfl), _, Cell.cons _ (hck 3 _ rfl), _, Cell.cons _ (hck 4 _ rfl), _, Cell.cons _ (hck 5 _ rfl), _, Cell.cons _ (hck 6 _ rfl), _, Cell.cons _ (hck 7 _ rfl), ?_⟩
        try with_reducible refine stI ?_
        try simp (maxSteps:=1000000)(dsimp:=false)(disch:=omega) only [go_sem, Φa, hP, h4_6, h4_7, h4_34, h4_32, h4_33, hops, ia_at e1]
        intro b9
        try with_reducible refine stI ?_
        try simp (maxSteps:=1000000)(dsimp:=false)(disch:=omega) only [go_sem, Φa, hP, h4_6, h4_7, h4_34, h4_32, h4_33, hops, ia_at e1]
        refine ⟨0, _, _, _, rfl, (by show 8 ≤ 8; decide), .inr (by decide), ?_⟩
        try with_reducible refine stI ?_
        try simp (maxSteps:=1000000)(dsimp:=false)(disch:=omega) only [go_sem, Φa, hP, h4_6, h4_7, h4_34, h4_32, h4_33, hops, ia_at e1]
        refine hK18 _ _ ?_
        try clear hK18 K18
        refine SX.seq_k fun K19 hK19 => ?_
        have hpl : (recsI (l.take k) 0).length ≤ 5 * l.length := by
          have h1 := recsI_len (l.take k) 0
          have h2 : (l.take k).length ≤ l.length := by rw [List.length_take]; exact Nat.min_le_right _ _
          omega
        have hfr : (frontL l.length).length = 8 := rfl
        refine SX.region_d [some 38, some 39, some 40, some 41, some 6] rfl (fun ops hops => ?_)
        unfold Dsts at hops
        simp (maxSteps:=1000000)(dsimp:=false)(disch:=omega) only [go_sem, Φa, hP, h4_6, h4_7, h4_34, h4_32, h4_33, hops]
        rw [show (#[Value.int .u8 (l.getD k default).code, .int .u16 (l.getD k default).ad, .int .u8 (l.getD k default).data, .bool (l.getD k default).rd, .bool (l.getD k default).wr, .int .u8 (l.getD k default).port, .bool (l.getD k default).q, .int .u8 (l.getD k default).md] : Array Value) = (l.getD k default).cells.toArray from rfl]
        refine ⟨_, Cell.at 0 rfl (show (Rc.cells _)[0]? = _ from rfl), _, Cell.at 0 rfl (show (Rc.cells _)[1]? = _ from rfl), _, Cell.at 0 rfl (show (Rc.cells _)[2]? = _ from rfl), _, Cell.at 0 rfl (show (Rc.cells _)[3]? = _ from rfl), _, Cell.at 0 rfl (show (Rc.cells _)[4]? = _ from rfl), _, Cell.at 0 rfl (show (Rc.cells _)[5]? = _ from rfl), _, Cell.at 0 rfl (show (Rc.cells _)[6]? = _ from rfl), _, Cell.at 0 rfl (show (Rc.cells _)[7]? = _ from rfl), ?_⟩
        try with_reducible refine stI ?_
        try simp (maxSteps:=1000000)(dsimp:=false)(disch:=omega) only [go_sem, Φa, hP, h4_6, h4_7, h4_34, h4_32, h4_33, hops]
        refine SCall.mono (pack_spec (i := 1) hP rfl hrow (by rw [List.length_append]; omega)) ?_
        rintro v2 L_ ⟨s2, rfl, hrow2⟩
        try with_reducible refine stI ?_
        try simp (maxSteps:=1000000)(dsimp:=false)(disch:=omega) only [go_sem, Φa, hP, h4_6, h4_7, h4_34, h4_32, h4_33, hops]
        refine hK19 _ _ ?_
        try clear hK19 K19
        refine SX.live [6, 9, 32, 33, 34] (fun T5 hT5 => ?_)
        simp only [forall_mem_cons', forall_mem_nil', go_sem, Φa, hP, h4_6, h4_7, h4_34, h4_32, h4_33] at hT5
        obtain ⟨h5_6, h5_9, h5_32, h5_33, h5_34⟩ := hT5
        clear h4_6 h4_7 h4_34 h4_32 h4_33 T4
        refine SX.region_d [some 42, some 43, some 44, some 7] rfl (fun ops hops => ?_)
        unfold Dsts at hops
        simp (maxSteps:=1000000)(dsimp:=false)(disch:=omega) only [go_sem, Φa, hP, h5_6, h5_9, h5_32, h5_33, h5_34, hops]
        refine ⟨_, Cell.at 0 rfl (show (Rc.cells _)[1]? = _ from rfl), ?_⟩
        try with_reducible refine stI ?_
        try simp (maxSteps:=1000000)(dsimp:=false)(disch:=omega) only [go_sem, Φa, hP, h5_6, h5_9, h5_32, h5_33, h5_34, hops]
        refine SCall.mono (after_spec hP) ?_
        rintro v_ L_ ⟨hv_, hL_⟩
        rw [hv_, hL_]
        clear hv_ hL_ v_ L_
        try with_reducible refine stI ?_
        try simp (maxSteps:=1000000)(dsimp:=false)(disch:=omega) only [go_sem, Φa, hP, h5_6, h5_9, h5_32, h5_33, h5_34, hops]
        refine hK17 _ _ ?_
        try clear hK17 K17
        refine SX.region_d [some 45, some 34] rfl (fun ops hops => ?_)
        unfold Dsts at hops
        simp (maxSteps:=1000000)(dsimp:=false)(disch:=omega) only [go_sem, Φa, hP, h5_6, h5_9, h5_32, h5_33, h5_34, hops]
        repeat' ((first | refine And.intro (by omega) ?_ | fail); try (with_reducible refine stI ?_); try simp (maxSteps:=1000000)(dsimp:=false)(disch:=omega) only [go_sem, Φa, hP, h5_6, h5_9, h5_32, h5_33, h5_34, hops])
        refine hK13 (k + 1, v2, s2) _ (s2 :: L) _ (by first | exact Less.refl _ | exact Less.drop _ _ | exact Less.drops (Less.drop _ _) | exact Less.drops (Less.drops (Less.drop _ _)) | exact Less.drops (Less.drops (Less.drops (Less.drop _ _))) | exact Less.drops (Less.drops (Less.drops (Less.drops (Less.drop _ _))))) ?_ ?_
        · try dsimp only
          refine ⟨?_, ?_, ?_, ?_, ?_, ?_, ?_⟩
          · simp (maxSteps:=1000000)(dsimp:=false)(disch:=omega) only [go_sem, Φa, hP, h5_6, h5_9, h5_32, h5_33, h5_34]
            first | done | rfl | skip
          · simp (maxSteps:=1000000)(dsimp:=false)(disch:=omega) only [go_sem, Φa, hP, h5_6, h5_9, h5_32, h5_33, h5_34]
            rw [nxtI_take hkl]
          · simp (maxSteps:=1000000)(dsimp:=false)(disch:=omega) only [go_sem, Φa, hP, h5_6, h5_9, h5_32, h5_33, h5_34]
            first | done | rfl | skip
          · simp (maxSteps:=1000000)(dsimp:=false)(disch:=omega) only [go_sem, Φa, hP, h5_6, h5_9, h5_32, h5_33, h5_34]
          · simp (maxSteps:=1000000)(dsimp:=false)(disch:=omega) only [go_sem, Φa, hP, h5_6, h5_9, h5_32, h5_33, h5_34]
          · rfl
          · exact ⟨by omega, by rw [recsI_take hkl, ← List.append_assoc]; exact hrow2⟩
        · (try dsimp only); omega
      · clear hX16 hY16 X16 Y16
        refine SX.exit ?_
        try simp only [andThen_normal, andThen_ret, andThen_exit, inBlk_normal, inBlk_ret, inBlk_exit, Nat.reduceEqDiff, if_true, if_false, ↓reduceIte]
        refine hK11 _ _ ?_
        try clear hK11 K11
        refine SX.seq_k fun K20 hK20 => ?_
        obtain rfl : k = l.length := by omega
        rw [List.take_length] at hrow
        refine SX.region_d [some 46, some 2, some 3] rfl (fun ops hops => ?_)
        unfold Dsts at hops
        simp (maxSteps:=1000000)(dsimp:=false)(disch:=omega) only [go_sem, Φa, hP, h4_6, h4_7, h4_34, h4_32, h4_33, hops]
        refine hK20 _ _ ?_
        try clear hK20 K20
        refine SX.ret ?_
        simp only [andThen_normal, andThen_ret, andThen_exit, inBlk_normal, inBlk_ret, inBlk_exit, Nat.reduceEqDiff, if_true, if_false, ↓reduceIte, retQ_ret]
        try simp only [res0, res1, res2, res3, stK_e, go_sem, Φa, hP, h4_6, h4_7, h4_34, h4_32, h4_33]
        have hp : packP l = (frontL l.length ++ recsI l 0, 0) := if_pos hc0
        exact ⟨_, _, Less.refl _, rfl, vo, so, by rw [hp], rfl, by rw [hp]; exact hrow⟩

end Go.Proofs.YtcenlgofldnfcaaDoor
set_option linter.unusedVariables false
set_option linter.unusedSimpArgs false
namespace Go.Proofs.YtcenlgofldnfcaaDoor
open Go.RowKit Go.SX Go.Proofs

/-! The document's examples. -/
def firstL : List Rc := [⟨0, 0, 196, true, false, 0, false, 0⟩, ⟨1, 4779, 15, false, true, 2, true, 0⟩]
theorem firstL_ok : ∀ r ∈ firstL, OkR r := fun r hr => by
  simp only [firstL, List.mem_cons, List.not_mem_nil, or_false] at hr
  rcases hr with rfl | rfl <;> exact ⟨by decide, by decide, by decide, by decide, by decide⟩
theorem print_first : printP firstL = (⟨#[115,48,32,48,48,48,48,32,99,52,32,114,10,115,49,32,49,50,97,98,32,48,102,32,119,32,110,50,32,113,10]⟩, 0) := by kernel_rfl
theorem pack_first : packP firstL = ([86,84,82,49,2,0,0,0,4,196,153,2,171,18,15], 0) := by kernel_rfl
theorem pack_txt : txt [86,84,82,49,2,0,0,0,4,196,153,2,171,18,15] = ⟨#[86,84,82,49,2,0,0,0,4,196,153,2,171,18,15]⟩ := by kernel_rfl
theorem unp_short : unpP [86,84,82,49,1,0,0,0,128,0,0,0,0] = ([], 91, 8) := by kernel_rfl
set_option maxHeartbeats 1000000 in
set_option maxRecDepth 100000 in
theorem first_spec {Γ : Ctx} (hP : Γ.P = Tryd.prog) {L : Hp}  :
    SCall Γ 26 #[] L (fun v L' => ∃ g, v = .slice (some ⟨g, 0, none⟩) 2 2 ∧ L' = some (g, .cells (firstL.flatMap Rc.cells).toArray 46 (0, 0)) :: L) := by
  refine SCall.enter (n := 4) (res1 0) (hP ▸ Tryd.func26) rfl rfl (by simp) (res1_ok rfl) ?_
  refine SX.seq_k fun K1 hK1 => ?_
  refine SX.region_d [some 0] rfl (fun ops hops => ?_)
  unfold Dsts at hops
  simp (maxSteps := 1000000) (dsimp := false) (disch := omega) only [go_sem, ia_someH, hP, hops]
  refine hK1 _ _ ?_
  try clear hK1 K1
  refine SX.seq_k fun K2 hK2 => ?_
  refine SX.region_d [some 1, some 2, some 3, some 0] rfl (fun ops hops => ?_)
  unfold Dsts at hops
  simp (maxSteps := 1000000) (dsimp := false) (disch := omega) only [go_sem, ia_someH, hP, hops]
  intro g1
  try with_reducible refine stI ?_
  try simp (maxSteps := 1000000) (dsimp := false) (disch := omega) only [go_sem, ia_someH, hP, hops]
  refine hK2 _ _ ?_
  try clear hK2 K2
  refine SX.ret ?_
  simp only [andThen_normal, andThen_ret, andThen_exit, inBlk_normal, inBlk_ret, inBlk_exit, Nat.reduceEqDiff, if_true, if_false, ↓reduceIte, retQ_ret]
  try simp only [res0, res1, res2, res3, stK_e, go_sem, ia_someH, hP]
  exact ⟨_, _, Less.refl _, rfl, g1, rfl, rfl⟩
set_option maxHeartbeats 1000000 in
set_option maxRecDepth 100000 in
theorem awake_spec {Γ : Ctx} (hP : Γ.P = Tryd.prog) {L : Hp} (hM : MD Γ) :
    SCall Γ 10 #[] L (fun v L' => v = .bool true ∧ L' = L) := by
  refine SCall.enter (n := 52) (res1 0) (hP ▸ Tryd.func10) rfl rfl (by simp) (res1_ok rfl) ?_
  refine SX.seq_k fun K1 hK1 => ?_
  refine SX.region_d [some 0] rfl (fun ops hops => ?_)
  unfold Dsts at hops
  simp (maxSteps := 1000000) (dsimp := false) (disch := omega) only [go_sem, ia_someH, hP, hops]
  refine hK1 _ _ ?_
  try clear hK1 K1
  refine SX.seq_k fun K2 hK2 => ?_
  refine SX.region_d [some 9, some 10, some 8, some 11, some 12, some 1, some 2] rfl (fun ops hops => ?_)
  unfold Dsts at hops
  simp (maxSteps := 1000000) (dsimp := false) (disch := omega) only [go_sem, ia_someH, hP, hops]
  refine SCall.mono (first_spec hP) ?_
  rintro v_ L_ ⟨ga, rfl, rfl⟩
  try with_reducible refine stI ?_
  try simp (maxSteps := 1000000) (dsimp := false) (disch := omega) only [go_sem, ia_someH, hP, hops]
  have hfga : SlC (Cell Γ (some (ga, .cells (firstL.flatMap Rc.cells).toArray 46 (0, 0)) :: L)) (.slice (some ⟨ga, 0, none⟩) 2 2) firstL := RowL.sl (i := 0) Rc.len (Row.lit (n := 2) rfl (by decide)) rfl
  refine SCall.mono (Print_spec hP hfga firstL_ok hM) ?_
  rintro v_ L_ ⟨hv_, hL_⟩
  rw [hv_, hL_]
  clear hv_ hL_ v_ L_
  rw [print_first]
  try with_reducible refine stI ?_
  try simp (maxSteps := 1000000) (dsimp := false) (disch := omega) only [go_sem, ia_someH, hP, hops]
  refine hK2 _ _ ?_
  try clear hK2 K2
  refine SX.seq_k fun K3 hK3 => ?_
  refine SX.less (Less.drop _ _) ?_
  refine SX.region_d [some 14, some 15, some 13, some 16, some 17, some 3, some 4] rfl (fun ops hops => ?_)
  unfold Dsts at hops
  simp (maxSteps := 1000000) (dsimp := false) (disch := omega) only [go_sem, ia_someH, hP, hops]
  refine SCall.mono (first_spec hP) ?_
  rintro v_ L_ ⟨gb, rfl, rfl⟩
  try with_reducible refine stI ?_
  try simp (maxSteps := 1000000) (dsimp := false) (disch := omega) only [go_sem, ia_someH, hP, hops]
  have hfgb : SlC (Cell Γ (some (gb, .cells (firstL.flatMap Rc.cells).toArray 46 (0, 0)) :: L)) (.slice (some ⟨gb, 0, none⟩) 2 2) firstL := RowL.sl (i := 0) Rc.len (Row.lit (n := 2) rfl (by decide)) rfl
  refine SCall.mono (Pack_spec hP hfgb) ?_
  rintro v_ L_ ⟨vp, sp, rfl, rfl, hrow⟩
  rw [pack_first] at hrow ⊢
  obtain ⟨pA, pC, rfl, _, _⟩ := Row.form hrow
  try with_reducible refine stI ?_
  try simp (maxSteps := 1000000) (dsimp := false) (disch := omega) only [go_sem, ia_someH, hP, hops]
  refine hK3 _ _ ?_
  try clear hK3 K3
  refine SX.live [1, 2, 3, 4] (fun T1 hT1 => ?_)
  simp only [forall_mem_cons', forall_mem_nil', go_sem, ia_someH, hP] at hT1
  obtain ⟨h1_1, h1_2, h1_3, h1_4⟩ := hT1
  refine SX.seq_k fun K4 hK4 => ?_
  refine SX.region_d [some 19, some 20, some 18, some 21, some 22, some 23, some 5, some 6, some 7] rfl (fun ops hops => ?_)
  unfold Dsts at hops
  simp (maxSteps := 1000000) (dsimp := false) (disch := omega) only [go_sem, ia_someH, hP, h1_1, h1_2, h1_3, h1_4, hops]
  intro g19
  try with_reducible refine stI ?_
  try simp (maxSteps := 1000000) (dsimp := false) (disch := omega) only [go_sem, ia_someH, hP, h1_1, h1_2, h1_3, h1_4, hops]
  refine SCall.mono (Unpack_spec (xs := [86,84,82,49,1,0,0,0,128,0,0,0,0]) hP (SlI.own 0 rfl rfl (Nat.le_refl _)) (by decide) (by show ∀ x ∈ _, 0 ≤ x ∧ x ≤ 255; decide)) ?_
  rintro v_ L_ ⟨vu, su, rfl, rfl, hru⟩
  rw [unp_short] at hru ⊢
  obtain ⟨uA, uC, rfl, _, _⟩ := Row.form hru
  try with_reducible refine stI ?_
  try simp (maxSteps := 1000000) (dsimp := false) (disch := omega) only [go_sem, ia_someH, hP, h1_1, h1_2, h1_3, h1_4, hops]
  refine hK4 _ _ ?_
  try clear hK4 K4
  refine SX.live [1, 2, 3, 4, 5, 6, 7] (fun T2 hT2 => ?_)
  simp only [forall_mem_cons', forall_mem_nil', go_sem, ia_someH, hP, h1_1, h1_2, h1_3, h1_4] at hT2
  obtain ⟨h2_1, h2_2, h2_3, h2_4, h2_5, h2_6, h2_7⟩ := hT2
  clear h1_1 h1_2 h1_3 h1_4 T1
  refine SX.seq_k fun K5 hK5 => ?_
  refine SX.region_d [some 24, some 25, some 26, some 27, some 28, some 29, some 30, some 31, some 32, some 33, some 34, some 35, some 36, some 37, some 38, some 39, some 40, some 41, some 42, some 43, some 44, some 45, some 46, some 47, some 48, some 49, some 50, some 51, some 0] rfl (fun ops hops => ?_)
  unfold Dsts at hops
  simp (maxSteps := 1000000) (dsimp := false) (disch := omega) only [go_sem, ia_someH, hP, h2_1, h2_2, h2_3, h2_4, h2_5, h2_6, h2_7, hops, pack_txt]
  refine conv_row (l := [86,84,82,49,2,0,0,0,4,196,153,2,171,18,15]) (hP ▸ Tryd.underlying30) (hP ▸ Tryd.underlying9) (hP ▸ Tryd.underlying5) (RowI.sl (i := 2) (show RowI .u8 5 (.slice pA 15 pC) [86,84,82,49,2,0,0,0,4,196,153,2,171,18,15] sp from hrow) rfl) (by show ∀ x ∈ _, 0 ≤ x ∧ x ≤ 255; decide) ?_
  try with_reducible refine stI ?_
  try simp (maxSteps := 1000000) (dsimp := false) (disch := omega) only [go_sem, ia_someH, hP, h2_1, h2_2, h2_3, h2_4, h2_5, h2_6, h2_7, hops, pack_txt]
  refine hK5 _ _ ?_
  try clear hK5 K5
  refine SX.ret ?_
  simp only [andThen_normal, andThen_ret, andThen_exit, inBlk_normal, inBlk_ret, inBlk_exit, Nat.reduceEqDiff, if_true, if_false, ↓reduceIte, retQ_ret]
  try simp only [res0, res1, res2, res3, stK_e, go_sem, ia_someH, hP, h2_1, h2_2, h2_3, h2_4, h2_5, h2_6, h2_7]
  exact ⟨_, _, Less.drops (Less.drops (Less.drops (Less.drop _ _))), rfl, rfl, rfl⟩

end Go.Proofs.YtcenlgofldnfcaaDoor
set_option linter.unusedVariables false
set_option linter.unusedSimpArgs false
namespace Go.Proofs.YtcenlgofldnfcaaDoor
open Go.RowKit Go.SX Go.Proofs
end Go.Proofs.YtcenlgofldnfcaaDoor
set_option linter.unusedVariables false
set_option linter.unusedSimpArgs false
namespace Go.Proofs.YtcenlgofldnfcaaDoor
open Go.RowKit Go.SX Go.Proofs

/-! Where two traces part. -/
theorem eqT_46 : EqT Tryd.prog 46 [.i .u8, .i .u16, .i .u8, .b, .b, .i .u8, .b, .i .u8] := ⟨by kernel_rfl, by kernel_rfl, by kernel_rfl, by kernel_rfl, by kernel_rfl⟩
theorem wf8 {n : Int} (h : 0 ≤ n ∧ n ≤ 255) : (Lit.int .u8 n).wf = true := by simp only [wf_u8, Bool.and_eq_true, decide_eq_true_eq]; omega
theorem okV_Rc {r : Rc} (h : OkR r) : okVs [.i .u8, .i .u16, .i .u8, .b, .b, .i .u8, .b, .i .u8] r.cells = true := by
  have h1 := wf8 h.code
  have h3 := wf8 h.data
  have h4 := wf8 h.port
  have h5 := wf8 h.md
  have h2 : (Lit.int .u16 r.ad).wf = true := by have := h.ad; simp only [wf_u16, Bool.and_eq_true, decide_eq_true_eq]; omega
  show okVs _ [.int .u8 r.code, .int .u16 r.ad, .int .u8 r.data, .bool r.rd, .bool r.wr, .int .u8 r.port, .bool r.q, .int .u8 r.md] = true
  simp only [okVs, okV, h1, h2, h3, h4, h5, decide_true, Bool.and_true, Bool.true_and, and_self]
instance : DecidableEq Rc := fun a b => decidable_of_iff (a.code = b.code ∧ a.ad = b.ad ∧ a.data = b.data ∧ a.rd = b.rd ∧ a.wr = b.wr ∧ a.port = b.port ∧ a.q = b.q ∧ a.md = b.md) (by cases a; cases b; simp)
theorem Rc.eq_cells {a b : Rc} : a.cells.map litV = b.cells.map litV ↔ a = b := by
  cases a; cases b
  simp [Rc.cells, litV]
def apP : List Rc → List Rc → Int → Int
  | [], [], _ => -1
  | [], _ :: _, k => k
  | _ :: _, [], k => k
  | x :: a, y :: b, k => if x = y then apP a b (k + 1) else k
theorem ap_step {a b : List Rc} {k : Nat} (h1 : k < a.length) (h2 : k < b.length) (h : a.getD k default = b.getD k default) : apP (a.drop k) (b.drop k) (k : Int) = apP (a.drop (k + 1)) (b.drop (k + 1)) ((k + 1 : Nat) : Int) := by
  rw [List.drop_eq_getElem_cons h1, List.drop_eq_getElem_cons h2, apP, if_pos]
  · rfl
  · simpa [List.getD_eq_getElem?_getD, List.getElem?_eq_getElem h1, List.getElem?_eq_getElem h2] using h
theorem ap_here {a b : List Rc} {k : Nat} (h1 : k < a.length) (h2 : k < b.length) (h : ¬ a.getD k default = b.getD k default) : apP (a.drop k) (b.drop k) (k : Int) = (k : Int) := by
  rw [List.drop_eq_getElem_cons h1, List.drop_eq_getElem_cons h2, apP, if_neg]
  simpa [List.getD_eq_getElem?_getD, List.getElem?_eq_getElem h1, List.getElem?_eq_getElem h2] using h
theorem ap_endb {a b : List Rc} {k : Nat} (h1 : k < a.length) (h2 : k = b.length) : apP (a.drop k) (b.drop k) (k : Int) = (k : Int) := by
  rw [List.drop_eq_getElem_cons h1, List.drop_of_length_le (by omega : b.length ≤ k), apP]
theorem ap_enda {a b : List Rc} {k : Nat} (h1 : k = a.length) (h2 : k < b.length) : apP (a.drop k) (b.drop k) (k : Int) = (k : Int) := by
  rw [List.drop_of_length_le (by omega : a.length ≤ k), List.drop_eq_getElem_cons h2, apP]
theorem ap_both {a b : List Rc} {k : Nat} (h1 : k = a.length) (h2 : k = b.length) : apP (a.drop k) (b.drop k) (k : Int) = -1 := by
  rw [List.drop_of_length_le (by omega : a.length ≤ k), List.drop_of_length_le (by omega : b.length ≤ k), apP]
theorem ap_neg : ∀ (a b : List Rc) (k : Int), 0 ≤ k → (apP a b k < 0 ↔ a = b)
  | [], [], k, _ => by simp [apP]
  | [], _ :: _, k, h => by simp [apP]; omega
  | _ :: _, [], k, h => by simp [apP]; omega
  | x :: a, y :: b, k, h => by
    rw [apP]
    by_cases e : x = y
    · rw [if_pos e, ap_neg a b (k + 1) (by omega), e]; simp
    · rw [if_neg e]; simp [e]; omega
set_option maxHeartbeats 1000000 in
set_option maxRecDepth 100000 in
theorem refApart_spec {Γ : Ctx} (hP : Γ.P = Tryd.prog) {L : Hp} {va vb : Value} {a b : List Rc} (ha : SlC (Cell Γ L) va a) (hb : SlC (Cell Γ L) vb b) (hao : ∀ r ∈ a, OkR r) (hbo : ∀ r ∈ b, OkR r) (hal : a.length ≤ 9223372036854775807) (hbl : b.length ≤ 9223372036854775807) :
    SCall Γ 22 #[va, vb] L (fun v L' => v = .int .i64 (apP a b 0) ∧ L' = L) := by
  obtain ⟨A, c, rfl, hc⟩ := Sl.shape ha
  obtain ⟨B, d, rfl, hd⟩ := Sl.shape hb
  obtain ⟨a1, e1, _, hA⟩ := Sl.at1 ha
  obtain ⟨b1, e2, _, hB⟩ := Sl.at1 hb
  refine SCall.enter (n := 38) (res1 4) (hP ▸ Tryd.func22) rfl rfl (by simp) (res1_ok rfl) ?_
  refine SX.seq_k fun K1 hK1 => ?_
  refine SX.region_d [some 4] rfl (fun ops hops => ?_)
  unfold Dsts at hops
  simp (maxSteps := 1000000) (dsimp := false) (disch := omega) only [go_sem, ia_someH, hP, hops]
  refine hK1 _ _ ?_
  try clear hK1 K1
  refine SX.seq_k fun K2 hK2 => ?_
  refine SX.seq_k fun K3 hK3 => ?_
  refine SX.region_d [some 5] rfl (fun ops hops => ?_)
  unfold Dsts at hops
  simp (maxSteps := 1000000) (dsimp := false) (disch := omega) only [go_sem, ia_someH, hP, hops]
  refine hK3 _ _ ?_
  try clear hK3 K3
  refine SX.block ?_
  refine SX.live [0, 1, 5] (fun T1 hT1 => ?_)
  simp only [forall_mem_cons', forall_mem_nil', go_sem, ia_someH, hP] at hT1
  obtain ⟨h1_0, h1_1, h1_5⟩ := hT1
  refine SX.loop_k (fun (ss : (Nat)) T L' => (fun (i : Nat) => T 5 = .int .i64 (i : Int) ∧ T 0 = T1 0 ∧ T 1 = T1 1 ∧ L' = L ∧ (i ≤ a.length ∧ i ≤ b.length ∧ apP a b 0 = apP (a.drop i) (b.drop i) (i : Int))) (ss)) (fun (ss : (Nat)) => (fun (i : Nat) => a.length - i) (ss)) 0 ?_ ?_
  · try dsimp only
    refine ⟨?_, ?_, ?_, ?_, ?_⟩
    · first | exact h1_5 | (rw [h1_5]; rfl) | (rw [h1_5]; simp; done)
    · rfl
    · rfl
    · rfl
    · exact ⟨Nat.zero_le _, Nat.zero_le _, rfl⟩
  · intro i T2 L2 hI K4 hK4
    try dsimp only at hI hK4
    simp only [h1_0, h1_1] at hI hK4
    obtain ⟨h2_5, h2_0, h2_1, hL2, ⟨hi, hib0, hap⟩⟩ := hI
    replace hL2 := hL2.symm
    subst hL2
    clear h1_0 h1_1 h1_5 T1
    refine SX.seq_k fun K5 hK5 => ?_
    refine SX.seq_k fun K6 hK6 => ?_
    refine SX.region_xd [some 6, some 7, some 8, some 9, some 10, some 11, some 12, some 13, some 14, some 15] rfl (fun ops hops => ?_)
    unfold Dsts at hops
    refine RX.live [0, 1, 5] (fun T3 hT3 => ?_)
    simp only [forall_mem_cons', forall_mem_nil', go_sem, ia_someH, hP, h2_5, h2_0, h2_1] at hT3
    obtain ⟨h3_0, h3_1, h3_5⟩ := hT3
    clear h2_5 h2_0 h2_1 T2
    refine RX.join 10 (fun (ss : Unit) T L' => T 15 = .bool (decide (i < a.length) && decide (i < b.length)) ∧ T 0 = T3 0 ∧ T 1 = T3 1 ∧ T 5 = T3 5 ∧ L' = L ∧ (True)) (fun K7 hK7 => ?_) ?_
    · simp only [h3_0, h3_1, h3_5] at hK7
      simp (maxSteps := 1000000) (dsimp := false) (disch := omega) only [go_sem, ia_someH, hP, h3_0, h3_1, h3_5, hops]
      repeat' (first | refine iteB (fun hg => ?_) (fun hg => ?_) | refine iteI (fun hg => ?_) (fun hg => ?_) | ((first | refine And.intro (by omega) ?_ | fail); try (with_reducible refine stI ?_); try simp (maxSteps := 1000000) (dsimp := false) (disch := omega) only [go_sem, ia_someH, hP, h3_0, h3_1, h3_5, hops]) | fail)
      all_goals
        refine hK7 () _ (L) _ (by first | exact Less.refl _ | exact Less.drop _ _ | exact Less.drops (Less.drop _ _) | exact Less.drops (Less.drops (Less.drop _ _)) | exact Less.drops (Less.drops (Less.drops (Less.drop _ _))) | exact Less.drops (Less.drops (Less.drops (Less.drops (Less.drop _ _))))) ?_
        try dsimp only
        refine ⟨?_, ?_, ?_, ?_, ?_, ?_⟩
        · simp (maxSteps := 1000000) (dsimp := false) (disch := omega) only [go_sem, ia_someH, hP, h3_0, h3_1, h3_5]
          first | done | rfl | (refine congrArg Value.bool ?_; rw [Bool.eq_iff_iff]; simp; first | done | omega)
        · simp (maxSteps := 1000000) (dsimp := false) (disch := omega) only [go_sem, ia_someH, hP, h3_0, h3_1, h3_5]
        · simp (maxSteps := 1000000) (dsimp := false) (disch := omega) only [go_sem, ia_someH, hP, h3_0, h3_1, h3_5]
        · simp (maxSteps := 1000000) (dsimp := false) (disch := omega) only [go_sem, ia_someH, hP, h3_0, h3_1, h3_5]
        · rfl
        · trivial
    · intro ss T4 L4 hI
      simp only [h3_0, h3_1, h3_5] at hI 
      obtain ⟨h4_15, h4_0, h4_1, h4_5, hL4, hinv⟩ := hI
      replace hL4 := hL4.symm
      subst hL4
      clear h3_0 h3_1 h3_5 T3
      refine RX.done ?_
      simp (maxSteps := 1000000) (dsimp := false) (disch := omega) only [go_sem, ia_someH, hP, h4_15, h4_0, h4_1, h4_5, hops]
      refine hK6 _ _ ?_
      try clear hK6 K6
      refine SX.cond_k fun X8 Y8 hX8 hY8 => ?_
      simp (maxSteps := 1000000) (dsimp := false) (disch := omega) only [go_sem, ia_someH, hP, h4_15, h4_0, h4_1, h4_5, condVC]
      refine ⟨fun hc15 => hX8 ?_, fun hc15 => hY8 ?_⟩
      · clear hX8 hY8 X8 Y8
        refine SX.skip ?_
        try simp only [andThen_normal, andThen_ret, andThen_exit, inBlk_normal, inBlk_ret, inBlk_exit, Nat.reduceEqDiff, if_true, if_false, ↓reduceIte]
        refine hK5 _ _ ?_
        try clear hK5 K5
        refine SX.seq_k fun K9 hK9 => ?_
        refine SX.block ?_
        refine SX.seq_k fun K10 hK10 => ?_
        have hia : i < a.length := by simp only [Bool.and_eq_true, decide_eq_true_eq] at hc15; exact hc15.1
        have hib : i < b.length := by simp only [Bool.and_eq_true, decide_eq_true_eq] at hc15; exact hc15.2
        have hck := hA i _ (getD_get (d := default) hia)
        have kck := hB i _ (getD_get (d := default) hib)
        have hra := hao _ (getD_mem hia)
        have hrb := hbo _ (getD_mem hib)
        refine SX.quiet_d (hP ▸ T.mixed) (by kernel_rfl) [some 18, some 19, some 20, some 21, some 22, some 23, some 24, some 25, some 26] rfl (fun ops hops => ?_)
        unfold Dsts at hops
        simp (maxSteps := 1000000) (dsimp := false) (disch := omega) only [go_sem, ia_someH, hP, h4_15, h4_0, h4_1, h4_5, hops, ia_at e1, ia_at e2]
        refine ⟨_, hck 0 _ rfl, _, hck 1 _ rfl, _, hck 2 _ rfl, _, hck 3 _ rfl, _, hck 4 _ rfl, _, hck 5 _ rfl, _, hck 6 _ rfl, _, hck 7 _ rfl, ?_⟩
        try with_reducible refine stI ?_
        try simp (maxSteps := 1000000) (dsimp := false) (disch := omega) only [go_sem, ia_someH, hP, h4_15, h4_0, h4_1, h4_5, hops, ia_at e1, ia_at e2]
        refine ⟨_, kck 0 _ rfl, _, kck 1 _ rfl, _, kck 2 _ rfl, _, kck 3 _ rfl, _, kck 4 _ rfl, _, kck 5 _ rfl, _, kck 6 _ rfl, _, kck 7 _ rfl, ?_⟩
        try with_reducible refine stI ?_
        try simp (maxSteps := 1000000) (dsimp := false) (disch := omega) only [go_sem, ia_someH, hP, h4_15, h4_0, h4_1, h4_5, hops, ia_at e1, ia_at e2]
        refine aggEq_of eqT_46 (okV_Rc hra) (okV_Rc hrb) (fun r hr => ?_)
        have hr' : r = true ↔ a.getD i default = b.getD i default := hr.trans Rc.eq_cells
        try with_reducible refine stI ?_
        try simp (maxSteps := 1000000) (dsimp := false) (disch := omega) only [go_sem, ia_someH, hP, h4_15, h4_0, h4_1, h4_5, hops, ia_at e1, ia_at e2]
        refine hK10 _ _ ?_
        try clear hK10 K10
        refine SX.live [0, 1, 5, 26] (fun T5 hT5 => ?_)
        simp only [forall_mem_cons', forall_mem_nil', go_sem, ia_someH, hP, h4_15, h4_0, h4_1, h4_5] at hT5
        obtain ⟨h5_0, h5_1, h5_5, h5_26⟩ := hT5
        clear h4_15 h4_0 h4_1 h4_5 T4
        refine SX.cond_k fun X11 Y11 hX11 hY11 => ?_
        simp (maxSteps := 1000000) (dsimp := false) (disch := omega) only [go_sem, ia_someH, hP, h5_0, h5_1, h5_5, h5_26, condVC]
        refine ⟨fun hc26 => hX11 ?_, fun hc26 => hY11 ?_⟩
        · clear hX11 hY11 X11 Y11
          refine SX.seq_k fun K12 hK12 => ?_
          refine SX.region_d [some 27, some 4] rfl (fun ops hops => ?_)
          unfold Dsts at hops
          simp (maxSteps := 1000000) (dsimp := false) (disch := omega) only [go_sem, ia_someH, hP, h5_0, h5_1, h5_5, h5_26, hops]
          refine hK12 _ _ ?_
          try clear hK12 K12
          refine SX.ret ?_
          simp only [andThen_normal, andThen_ret, andThen_exit, inBlk_normal, inBlk_ret, inBlk_exit, Nat.reduceEqDiff, if_true, if_false, ↓reduceIte, retQ_ret]
          try simp only [res0, res1, res2, res3, stK_e, go_sem, ia_someH, hP, h5_0, h5_1, h5_5, h5_26]
          exact ⟨_, _, Less.refl _, rfl, by rw [hap, ap_here hia hib (fun e => by have := hr'.2 e; simp_all)], rfl⟩
        · clear hX11 hY11 X11 Y11
          refine SX.skip ?_
          try simp only [andThen_normal, andThen_ret, andThen_exit, inBlk_normal, inBlk_ret, inBlk_exit, Nat.reduceEqDiff, if_true, if_false, ↓reduceIte]
          refine hK9 _ _ ?_
          try clear hK9 K9
          refine SX.region_d [some 16, some 17, some 5] rfl (fun ops hops => ?_)
          unfold Dsts at hops
          simp (maxSteps := 1000000) (dsimp := false) (disch := omega) only [go_sem, ia_someH, hP, h5_0, h5_1, h5_5, h5_26, hops]
          repeat' ((first | refine And.intro (by omega) ?_ | fail); try (with_reducible refine stI ?_); try simp (maxSteps := 1000000) (dsimp := false) (disch := omega) only [go_sem, ia_someH, hP, h5_0, h5_1, h5_5, h5_26, hops])
          refine hK4 (i + 1) _ (L) _ (by exact Less.refl _) ?_ ?_
          · try dsimp only
            refine ⟨?_, ?_, ?_, ?_, ?_⟩
            · simp (maxSteps := 1000000) (dsimp := false) (disch := omega) only [go_sem, ia_someH, hP, h5_0, h5_1, h5_5, h5_26]
              first | done | rfl | skip
            · simp (maxSteps := 1000000) (dsimp := false) (disch := omega) only [go_sem, ia_someH, hP, h5_0, h5_1, h5_5, h5_26]
            · simp (maxSteps := 1000000) (dsimp := false) (disch := omega) only [go_sem, ia_someH, hP, h5_0, h5_1, h5_5, h5_26]
            · rfl
            · exact ⟨by omega, by omega, by rw [hap, ap_step hia hib (hr'.1 (by simpa using hc26))]⟩
          · (try dsimp only); omega
      · clear hX8 hY8 X8 Y8
        refine SX.exit ?_
        try simp only [andThen_normal, andThen_ret, andThen_exit, inBlk_normal, inBlk_ret, inBlk_exit, Nat.reduceEqDiff, if_true, if_false, ↓reduceIte]
        refine hK2 _ _ ?_
        try clear hK2 K2
        refine SX.seq_k fun K13 hK13 => ?_
        refine SX.seq_k fun K14 hK14 => ?_
        refine SX.region_d [some 28, some 29, some 30, some 31, some 32] rfl (fun ops hops => ?_)
        unfold Dsts at hops
        simp (maxSteps := 1000000) (dsimp := false) (disch := omega) only [go_sem, ia_someH, hP, h4_15, h4_0, h4_1, h4_5, hops]
        repeat' ((first | refine And.intro (by omega) ?_ | fail); try (with_reducible refine stI ?_); try simp (maxSteps := 1000000) (dsimp := false) (disch := omega) only [go_sem, ia_someH, hP, h4_15, h4_0, h4_1, h4_5, hops])
        refine hK14 _ _ ?_
        try clear hK14 K14
        refine SX.cond_k fun X15 Y15 hX15 hY15 => ?_
        simp (maxSteps := 1000000) (dsimp := false) (disch := omega) only [go_sem, ia_someH, hP, h4_15, h4_0, h4_1, h4_5, condVC]
        refine ⟨fun hc32 => hX15 ?_, fun hc32 => hY15 ?_⟩
        · clear hX15 hY15 X15 Y15
          refine SX.seq_k fun K16 hK16 => ?_
          refine SX.region_d [some 4] rfl (fun ops hops => ?_)
          unfold Dsts at hops
          simp (maxSteps := 1000000) (dsimp := false) (disch := omega) only [go_sem, ia_someH, hP, h4_15, h4_0, h4_1, h4_5, hops]
          refine hK16 _ _ ?_
          try clear hK16 K16
          refine SX.ret ?_
          simp only [andThen_normal, andThen_ret, andThen_exit, inBlk_normal, inBlk_ret, inBlk_exit, Nat.reduceEqDiff, if_true, if_false, ↓reduceIte, retQ_ret]
          try simp only [res0, res1, res2, res3, stK_e, go_sem, ia_someH, hP, h4_15, h4_0, h4_1, h4_5]
          exact ⟨_, _, Less.refl _, rfl, by rw [hap, ap_both (by simp at hc15; omega) (by simp at hc15; omega)], rfl⟩
        · clear hX15 hY15 X15 Y15
          refine SX.skip ?_
          try simp only [andThen_normal, andThen_ret, andThen_exit, inBlk_normal, inBlk_ret, inBlk_exit, Nat.reduceEqDiff, if_true, if_false, ↓reduceIte]
          refine hK13 _ _ ?_
          try clear hK13 K13
          refine SX.seq_k fun K17 hK17 => ?_
          refine SX.region_d [some 33, some 34, some 35, some 36, some 37, some 4] rfl (fun ops hops => ?_)
          unfold Dsts at hops
          simp (maxSteps := 1000000) (dsimp := false) (disch := omega) only [go_sem, ia_someH, hP, h4_15, h4_0, h4_1, h4_5, hops]
          repeat' ((first | refine And.intro (by omega) ?_ | fail); try (with_reducible refine stI ?_); try simp (maxSteps := 1000000) (dsimp := false) (disch := omega) only [go_sem, ia_someH, hP, h4_15, h4_0, h4_1, h4_5, hops])
          refine hK17 _ _ ?_
          try clear hK17 K17
          refine SX.ret ?_
          simp only [andThen_normal, andThen_ret, andThen_exit, inBlk_normal, inBlk_ret, inBlk_exit, Nat.reduceEqDiff, if_true, if_false, ↓reduceIte, retQ_ret]
          try simp only [res0, res1, res2, res3, stK_e, go_sem, ia_someH, hP, h4_15, h4_0, h4_1, h4_5]
          refine ⟨_, _, Less.refl _, rfl, ?_, rfl⟩
          rw [hap]
          simp only [Bool.and_eq_false_iff, decide_eq_false_iff_not] at hc15
          rcases Nat.lt_or_ge i a.length with h | h
          · rw [ap_endb h (by omega)]; congr 1; omega
          · rw [ap_enda (by omega) (by omega)]; congr 1; omega
set_option maxHeartbeats 1000000 in
set_option maxRecDepth 100000 in
theorem same_spec {Γ : Ctx} (hP : Γ.P = Tryd.prog) {L : Hp} {va vb : Value} {a b : List Rc} (ha : SlC (Cell Γ L) va a) (hb : SlC (Cell Γ L) vb b) (hao : ∀ r ∈ a, OkR r) (hbo : ∀ r ∈ b, OkR r) (hal : a.length ≤ 9223372036854775807) (hbl : b.length ≤ 9223372036854775807) :
    SCall Γ 25 #[va, vb] L (fun v L' => v = .bool (decide (a = b)) ∧ L' = L) := by
  refine SCall.enter (n := 9) (res1 4) (hP ▸ Tryd.func25) rfl rfl (by simp) (res1_ok rfl) ?_
  refine SX.seq_k fun K1 hK1 => ?_
  refine SX.region_d [some 4] rfl (fun ops hops => ?_)
  unfold Dsts at hops
  simp (maxSteps := 1000000) (dsimp := false) (disch := omega) only [go_sem, ia_someH, hP, hops]
  refine hK1 _ _ ?_
  try clear hK1 K1
  refine SX.seq_k fun K2 hK2 => ?_
  refine SX.region_d [some 5, some 6, some 7, some 8, some 4] rfl (fun ops hops => ?_)
  unfold Dsts at hops
  simp (maxSteps := 1000000) (dsimp := false) (disch := omega) only [go_sem, ia_someH, hP, hops]
  refine SCall.mono (refApart_spec hP ha hb hao hbo hal hbl) ?_
  rintro v_ L_ ⟨hv_, hL_⟩
  rw [hv_, hL_]
  clear hv_ hL_ v_ L_
  try with_reducible refine stI ?_
  try simp (maxSteps := 1000000) (dsimp := false) (disch := omega) only [go_sem, ia_someH, hP, hops]
  refine hK2 _ _ ?_
  try clear hK2 K2
  refine SX.ret ?_
  simp only [andThen_normal, andThen_ret, andThen_exit, inBlk_normal, inBlk_ret, inBlk_exit, Nat.reduceEqDiff, if_true, if_false, ↓reduceIte, retQ_ret]
  try simp only [res0, res1, res2, res3, stK_e, go_sem, ia_someH, hP]
  exact ⟨_, _, Less.refl _, rfl, congrArg Value.bool (decide_eq_decide.2 (ap_neg a b 0 (Int.le_refl _))), rfl⟩
end Go.Proofs.YtcenlgofldnfcaaDoor
set_option linter.unusedVariables false
set_option linter.unusedSimpArgs false
namespace Go.Proofs.YtcenlgofldnfcaaDoor
open Go.RowKit Go.SX Go.Proofs
theorem Sl.take {α : Type} {sz : Nat} {R : (Addr → Value → Prop) → Addr → α → Prop} {C : Addr → Value → Prop} {A : Option Addr} {n c k : Nat} {xs : List α} (h : Sl sz R C (.slice A n c) xs) (hk : k ≤ n) : Sl sz R C (.slice A k c) (xs.take k) := by
  obtain ⟨A', c', he, hc, hA⟩ := h
  injection he with e1 e2 e3
  subst e1 e2 e3
  refine ⟨A, c, by rw [List.length_take, Nat.min_eq_left hk], by rw [List.length_take]; omega, fun j x hj => ?_⟩
  rw [List.getElem?_take] at hj
  split at hj
  · exact hA j x hj
  · cases hj
/-! A trace in which nothing is asked. -/

/-! Records in memory of their own. -/
def rK (c : Int) : Rc := ⟨c, 0, 0, false, false, 0, false, 0⟩
end Go.Proofs.YtcenlgofldnfcaaDoor
set_option linter.unusedVariables false
set_option linter.unusedSimpArgs false
namespace Go.Proofs.YtcenlgofldnfcaaDoor
open Go.RowKit Go.SX Go.Proofs
open Go.SX renaming ia_someH → Φa

/-! The document's line. -/
theorem dg_low : ∀ k, k < 10 → dg k = 48 + (k : Int) := by decide
theorem dg_high : ∀ k, k < 16 → 10 ≤ k → dg k = 97 + (k : Int) - 10 := by decide
theorem tmod16 (n : Nat) : ((n : Int)).tmod 16 = ((n % 16 : Nat) : Int) := rfl
theorem tdiv16 (n : Nat) : ((n : Int)).tdiv 16 = ((n / 16 : Nat) : Int) := rfl
theorem wrapN {z : Nat} (h : z < 4294967296) : IntKind.i64.wrap ((z / 16 : Nat) : Int) = ((z / 16 : Nat) : Int) := w64 (by omega)
theorem dg_mod (n : Nat) : dg (n % 16) = dg n := by unfold dg; rw [Nat.mod_mod]
theorem set_down {m j : Nat} (h : j < m) (S : List Int) (d : Int) : (List.replicate (m - j) 0 ++ S).set (m - 1 - j) d = List.replicate (m - (j + 1)) 0 ++ d :: S := set_suf h S d
set_option maxHeartbeats 1000000 in
set_option maxRecDepth 100000 in
theorem digit_spec {Γ : Ctx} (hP : Γ.P = Tryd.prog) {L : Hp} {k : Nat} (hk : k < 16) :
    SCall Γ 69 #[(.int .i64 (k : Int))] L (fun v L' => v = .int .u8 (dg k) ∧ L' = L) := by
  refine SCall.enter (n := 12) (res1 2) (hP ▸ Tryd.func69) rfl rfl (by simp) (res1_ok rfl) ?_
  refine SX.seq_k fun K1 hK1 => ?_
  refine SX.region_d [some 2] rfl (fun ops hops => ?_)
  unfold Dsts at hops
  simp (maxSteps:=1000000)(dsimp:=false)(disch:=omega) only [go_sem, Φa, hP, hops]
  refine hK1 _ _ ?_
  try clear hK1 K1
  refine SX.seq_k fun K2 hK2 => ?_
  refine SX.seq_k fun K3 hK3 => ?_
  refine SX.region_d [some 3, some 4] rfl (fun ops hops => ?_)
  unfold Dsts at hops
  simp (maxSteps:=1000000)(dsimp:=false)(disch:=omega) only [go_sem, Φa, hP, hops]
  repeat' ((first | refine And.intro (by omega) ?_ | fail); try (with_reducible refine stI ?_); try simp (maxSteps:=1000000)(dsimp:=false)(disch:=omega) only [go_sem, Φa, hP, hops])
  refine hK3 _ _ ?_
  try clear hK3 K3
  refine SX.cond_k fun X4 Y4 hX4 hY4 => ?_
  simp (maxSteps:=1000000)(dsimp:=false)(disch:=omega) only [go_sem, Φa, hP, condVC]
  refine ⟨fun hc4 => hX4 ?_, fun hc4 => hY4 ?_⟩
  · clear hX4 hY4 X4 Y4
    refine SX.seq_k fun K5 hK5 => ?_
    refine SX.region_d [some 5, some 6, some 7, some 2] rfl (fun ops hops => ?_)
    unfold Dsts at hops
    simp (maxSteps:=1000000)(dsimp:=false)(disch:=omega) only [go_sem, Φa, hP, hops]
    repeat' ((first | refine And.intro (by omega) ?_ | fail); try (with_reducible refine stI ?_); try simp (maxSteps:=1000000)(dsimp:=false)(disch:=omega) only [go_sem, Φa, hP, hops])
    refine hK5 _ _ ?_
    try clear hK5 K5
    refine SX.ret ?_
    simp only [andThen_normal, andThen_ret, andThen_exit, inBlk_normal, inBlk_ret, inBlk_exit, Nat.reduceEqDiff, if_true, if_false, ↓reduceIte, retQ_ret]
    try simp only [res0, res1, res2, res3, stK_e, go_sem, Φa, hP]
    exact ⟨_, _, Less.refl _, rfl, by rw [dg_low k (by omega)], rfl⟩
  · clear hX4 hY4 X4 Y4
    refine SX.skip ?_
    try simp only [andThen_normal, andThen_ret, andThen_exit, inBlk_normal, inBlk_ret, inBlk_exit, Nat.reduceEqDiff, if_true, if_false, ↓reduceIte]
    refine hK2 _ _ ?_
    try clear hK2 K2
    refine SX.seq_k fun K6 hK6 => ?_
    refine SX.region_d [some 8, some 9, some 10, some 11, some 2] rfl (fun ops hops => ?_)
    unfold Dsts at hops
    simp (maxSteps:=1000000)(dsimp:=false)(disch:=omega) only [go_sem, Φa, hP, hops]
    repeat' ((first | refine And.intro (by omega) ?_ | fail); try (with_reducible refine stI ?_); try simp (maxSteps:=1000000)(dsimp:=false)(disch:=omega) only [go_sem, Φa, hP, hops])
    refine hK6 _ _ ?_
    try clear hK6 K6
    refine SX.ret ?_
    simp only [andThen_normal, andThen_ret, andThen_exit, inBlk_normal, inBlk_ret, inBlk_exit, Nat.reduceEqDiff, if_true, if_false, ↓reduceIte, retQ_ret]
    try simp only [res0, res1, res2, res3, stK_e, go_sem, Φa, hP]
    exact ⟨_, _, Less.refl _, rfl, by rw [dg_high k hk (by omega)], rfl⟩
set_option maxHeartbeats 1000000 in
set_option maxRecDepth 100000 in
theorem refHex_spec {Γ : Ctx} (hP : Γ.P = Tryd.prog) {L : Hp} {n m : Nat} (hm0 : 1 ≤ m) (hm : m ≤ 4) (hn : n < 16 ^ m) :
    SCall Γ 50 #[(.int .i64 (n : Int)), (.int .i64 (m : Int))] L (fun v L' => v = .string (hexS n m) ∧ L' = L) := by
  refine SCall.enter (n := 37) (res1 4) (hP ▸ Tryd.func50) rfl rfl (by simp) (res1_ok rfl) ?_
  refine SX.seq_k fun K1 hK1 => ?_
  refine SX.region_d [some 4] rfl (fun ops hops => ?_)
  unfold Dsts at hops
  simp (maxSteps:=1000000)(dsimp:=false)(disch:=omega) only [go_sem, Φa, hP, hops]
  refine hK1 _ _ ?_
  try clear hK1 K1
  refine SX.seq_k fun K2 hK2 => ?_
  refine SX.seq_k fun K3 hK3 => ?_
  refine SX.region_d [some 7, some 8, some 9, some 10, some 11, some 12, some 13, some 14, some 15, some 16] rfl (fun ops hops => ?_)
  unfold Dsts at hops
  simp (maxSteps:=1000000)(dsimp:=false)(disch:=omega) only [go_sem, Φa, hP, hops]
  repeat' ((first | refine And.intro (by omega) ?_ | fail); try (with_reducible refine stI ?_); try simp (maxSteps:=1000000)(dsimp:=false)(disch:=omega) only [go_sem, Φa, hP, hops])
  refine hK3 _ _ ?_
  try clear hK3 K3
  refine SX.live [0, 1, 16] (fun T1 hT1 => ?_)
  simp only [forall_mem_cons', forall_mem_nil', go_sem, Φa, hP] at hT1
  obtain ⟨h1_0, h1_1, h1_16⟩ := hT1
  refine SX.cond_k fun X4 Y4 hX4 hY4 => ?_
  simp (maxSteps:=1000000)(dsimp:=false)(disch:=omega) only [go_sem, Φa, hP, h1_0, h1_1, h1_16, condVC]
  refine hY4 ?_
  clear hX4 hY4 X4 Y4
  refine SX.skip ?_
  try simp only [andThen_normal, andThen_ret, andThen_exit, inBlk_normal, inBlk_ret, inBlk_exit, Nat.reduceEqDiff, if_true, if_false, ↓reduceIte]
  refine hK2 _ _ ?_
  try clear hK2 K2
  refine SX.seq_k fun K5 hK5 => ?_
  refine SX.region_d [some 17, some 18, some 5] rfl (fun ops hops => ?_)
  unfold Dsts at hops
  simp (maxSteps:=1000000)(dsimp:=false)(disch:=omega) only [go_sem, Φa, hP, h1_0, h1_1, h1_16, hops]
  repeat' ((first | intro g3 | refine And.intro (by omega) ?_ | fail); try (with_reducible refine stI ?_); try simp (maxSteps:=1000000)(dsimp:=false)(disch:=omega) only [go_sem, Φa, hP, h1_0, h1_1, h1_16, hops])
  refine hK5 _ _ ?_
  try clear hK5 K5
  refine SX.seq_k fun K6 hK6 => ?_
  refine SX.seq_k fun K7 hK7 => ?_
  refine SX.region_d [some 19, some 20, some 6] rfl (fun ops hops => ?_)
  unfold Dsts at hops
  simp (maxSteps:=1000000)(dsimp:=false)(disch:=omega) only [go_sem, Φa, hP, h1_0, h1_1, h1_16, hops]
  repeat' ((first | refine And.intro (by omega) ?_ | fail); try (with_reducible refine stI ?_); try simp (maxSteps:=1000000)(dsimp:=false)(disch:=omega) only [go_sem, Φa, hP, h1_0, h1_1, h1_16, hops])
  refine hK7 _ _ ?_
  try clear hK7 K7
  refine SX.block ?_
  refine SX.live [0, 5, 6] (fun T2 hT2 => ?_)
  simp only [forall_mem_cons', forall_mem_nil', go_sem, Φa, hP, h1_0, h1_1, h1_16] at hT2
  obtain ⟨h2_0, h2_5, h2_6⟩ := hT2
  clear h1_0 h1_1 h1_16 T1
  refine SX.loop_k (fun (ss : (Nat) × (List Int)) T L' => (fun (j : Nat) (S : List Int) => T 0 = .int .i64 ((n / 16 ^ j : Nat) : Int) ∧ T 6 = .int .i64 ((m : Int) - 1 - (j : Int)) ∧ T 5 = T2 5 ∧ L' = some (g3, .cells (ints .u8 (List.replicate (m - j) 0 ++ S)).toArray 5 (0, 0)) :: L ∧ (j ≤ m ∧ S.length = j ∧ hexF n m = hexF (n / 16 ^ j) (m - j) ++ S)) (ss.1) (ss.2)) (fun (ss : (Nat) × (List Int)) => (fun (j : Nat) (S : List Int) => m - j) (ss.1) (ss.2)) (0, []) ?_ ?_
  · try dsimp only
    refine ⟨?_, ?_, ?_, ?_, ?_⟩
    · first | exact h2_0 | (rw [h2_0]; rfl) | (rw [h2_0]; simp; done)
    · first | (simp only [*]; congr 1; omega) | skip
    · rfl
    · simp [zerosV_ints]
    · exact ⟨Nat.zero_le _, rfl, by simp⟩
  · intro ss T3 L3 hI K8 hK8
    obtain ⟨j, S⟩ := ss
    try dsimp only at hI hK8
    simp only [h2_5] at hI hK8
    obtain ⟨h3_0, h3_6, h3_5, hL3, hinv⟩ := hI
    replace hL3 := hL3.symm
    subst hL3
    clear h2_0 h2_5 h2_6 T2
    refine SX.seq_k fun K9 hK9 => ?_
    refine SX.seq_k fun K10 hK10 => ?_
    refine SX.region_d [some 21, some 22] rfl (fun ops hops => ?_)
    unfold Dsts at hops
    simp (maxSteps:=1000000)(dsimp:=false)(disch:=omega) only [go_sem, Φa, hP, h3_0, h3_6, h3_5, hops]
    repeat' ((first | refine And.intro (by omega) ?_ | fail); try (with_reducible refine stI ?_); try simp (maxSteps:=1000000)(dsimp:=false)(disch:=omega) only [go_sem, Φa, hP, h3_0, h3_6, h3_5, hops])
    refine hK10 _ _ ?_
    try clear hK10 K10
    refine SX.cond_k fun X11 Y11 hX11 hY11 => ?_
    simp (maxSteps:=1000000)(dsimp:=false)(disch:=omega) only [go_sem, Φa, hP, h3_0, h3_6, h3_5, condVC]
    refine ⟨fun hc22 => hX11 ?_, fun hc22 => hY11 ?_⟩
    · clear hX11 hY11 X11 Y11
      refine SX.skip ?_
      try simp only [andThen_normal, andThen_ret, andThen_exit, inBlk_normal, inBlk_ret, inBlk_exit, Nat.reduceEqDiff, if_true, if_false, ↓reduceIte]
      refine hK9 _ _ ?_
      try clear hK9 K9
      refine SX.seq_k fun K12 hK12 => ?_
      refine SX.block ?_
      refine SX.seq_k fun K13 hK13 => ?_
      have hjm : j < m := by omega
      have hix : ((m : Int) - 1 - (j : Int)).toNat = m - 1 - j := by omega
      refine SX.region_d [some 25, some 26, some 27, some 28, some 29, some 30, none] rfl (fun ops hops => ?_)
      unfold Dsts at hops
      simp (maxSteps:=1000000)(dsimp:=false)(disch:=omega) only [go_sem, Φa, hP, h3_0, h3_6, h3_5, hops, hix, tmod16]
      refine SCall.mono (digit_spec hP (k := (n / 16 ^ j) % 16) (Nat.mod_lt _ (by decide))) ?_
      rintro v_ L_ ⟨hv_, hL_⟩
      rw [hv_, hL_]
      clear hv_ hL_ v_ L_
      rw [dg_mod]
      try with_reducible refine stI ?_
      try simp (maxSteps:=1000000)(dsimp:=false)(disch:=omega) only [go_sem, Φa, hP, h3_0, h3_6, h3_5, hops, hix, tmod16]
      refine ⟨0, _, _, _, rfl, by simp [ints]; omega, .inr (Nat.zero_le _), ?_⟩
      try with_reducible refine stI ?_
      try simp (maxSteps:=1000000)(dsimp:=false)(disch:=omega) only [go_sem, Φa, hP, h3_0, h3_6, h3_5, hops, hix, tmod16]
      rw [ints_set]
      refine hK13 _ _ ?_
      try clear hK13 K13
      have hq : n / 16 ^ j < 4294967296 := Nat.lt_of_le_of_lt (Nat.div_le_self _ _) (by have : 16 ^ m ≤ 16 ^ 4 := Nat.pow_le_pow_right (by decide) hm; omega)
      refine SX.region_d [some 31, some 32, some 0] rfl (fun ops hops => ?_)
      unfold Dsts at hops
      simp (maxSteps:=1000000)(dsimp:=false)(disch:=omega) only [go_sem, Φa, hP, h3_0, h3_6, h3_5, hops, tdiv16]
      repeat' ((first | refine And.intro (by omega) ?_ | fail); try (with_reducible refine stI ?_); try simp (maxSteps:=1000000)(dsimp:=false)(disch:=omega) only [go_sem, Φa, hP, h3_0, h3_6, h3_5, hops, tdiv16])
      refine hK12 _ _ ?_
      try clear hK12 K12
      refine SX.live [0, 5, 6] (fun T4 hT4 => ?_)
      simp only [forall_mem_cons', forall_mem_nil', go_sem, Φa, hP, h3_0, h3_6, h3_5] at hT4
      obtain ⟨h4_0, h4_5, h4_6⟩ := hT4
      clear h3_0 h3_6 h3_5 T3
      refine SX.region_d [some 23, some 24, some 6] rfl (fun ops hops => ?_)
      unfold Dsts at hops
      simp (maxSteps:=1000000)(dsimp:=false)(disch:=omega) only [go_sem, Φa, hP, h4_0, h4_5, h4_6, hops]
      repeat' ((first | refine And.intro (by omega) ?_ | fail); try (with_reducible refine stI ?_); try simp (maxSteps:=1000000)(dsimp:=false)(disch:=omega) only [go_sem, Φa, hP, h4_0, h4_5, h4_6, hops])
      refine hK8 (j + 1, dg (n / 16 ^ j) :: S) _ (_) _ (by first | exact Less.refl _ | exact Less.drop _ _ | exact Less.drops (Less.drop _ _) | exact Less.drops (Less.drops (Less.drop _ _)) | exact Less.drops (Less.drops (Less.drops (Less.drop _ _))) | exact Less.drops (Less.drops (Less.drops (Less.drops (Less.drop _ _))))) ?_ ?_
      · try dsimp only
        refine ⟨?_, ?_, ?_, ?_, ?_⟩
        · simp (maxSteps:=1000000)(dsimp:=false)(disch:=omega) only [go_sem, Φa, hP, h4_0, h4_5, h4_6]
          rw [wrapN hq, div16]
        · simp (maxSteps:=1000000)(dsimp:=false)(disch:=omega) only [go_sem, Φa, hP, h4_0, h4_5, h4_6]
          congr 1; omega
        · simp (maxSteps:=1000000)(dsimp:=false)(disch:=omega) only [go_sem, Φa, hP, h4_0, h4_5, h4_6]
        · rw [set_down (by omega)]
        · refine ⟨by omega, by simp [hinv.2.1], ?_⟩
          rw [hinv.2.2, show m - j = (m - (j + 1)) + 1 by omega, hexF, div16, List.append_assoc]
          rfl
      · (try dsimp only); omega
    · clear hX11 hY11 X11 Y11
      refine SX.exit ?_
      try simp only [andThen_normal, andThen_ret, andThen_exit, inBlk_normal, inBlk_ret, inBlk_exit, Nat.reduceEqDiff, if_true, if_false, ↓reduceIte]
      refine hK6 _ _ ?_
      try clear hK6 K6
      refine SX.seq_k fun K14 hK14 => ?_
      refine SX.seq_k fun K15 hK15 => ?_
      obtain rfl : j = m := by omega
      have hz : n / 16 ^ j = 0 := Nat.div_eq_of_lt hn
      have hS : hexF n j = S := by rw [hinv.2.2, Nat.sub_self]; rfl
      have hrow : SlI .u8 (Cell Γ (some (g3, .cells (ints .u8 (List.replicate (j - j) 0 ++ S)).toArray 5 (0, 0)) :: L)) (.slice (some ⟨g3, 0, none⟩) j j) (hexF n j) := SlI.own 0 (by rw [hS, Nat.sub_self]; rfl) (by rw [hexF_length]) (Nat.le_refl _)
      refine SX.region_d [some 33, some 34] rfl (fun ops hops => ?_)
      unfold Dsts at hops
      simp (maxSteps:=1000000)(dsimp:=false)(disch:=omega) only [go_sem, Φa, hP, h3_0, h3_6, h3_5, hops, hz]
      repeat' ((first | refine And.intro (by omega) ?_ | fail); try (with_reducible refine stI ?_); try simp (maxSteps:=1000000)(dsimp:=false)(disch:=omega) only [go_sem, Φa, hP, h3_0, h3_6, h3_5, hops, hz])
      refine hK15 _ _ ?_
      try clear hK15 K15
      refine SX.cond_k fun X16 Y16 hX16 hY16 => ?_
      simp (maxSteps:=1000000)(dsimp:=false)(disch:=omega) only [go_sem, Φa, hP, h3_0, h3_6, h3_5, condVC]
      refine hY16 ?_
      clear hX16 hY16 X16 Y16
      refine SX.skip ?_
      try simp only [andThen_normal, andThen_ret, andThen_exit, inBlk_normal, inBlk_ret, inBlk_exit, Nat.reduceEqDiff, if_true, if_false, ↓reduceIte]
      refine hK14 _ _ ?_
      try clear hK14 K14
      refine SX.seq_k fun K17 hK17 => ?_
      refine SX.region_d [some 35, some 36, some 4] rfl (fun ops hops => ?_)
      unfold Dsts at hops
      simp (maxSteps:=1000000)(dsimp:=false)(disch:=omega) only [go_sem, Φa, hP, h3_0, h3_6, h3_5, hops]
      refine conv_row (hP ▸ Tryd.underlying30) (hP ▸ Tryd.underlying9) (hP ▸ Tryd.underlying5) hrow (hexF_byte _ _) ?_
      try with_reducible refine stI ?_
      try simp (maxSteps:=1000000)(dsimp:=false)(disch:=omega) only [go_sem, Φa, hP, h3_0, h3_6, h3_5, hops]
      refine hK17 _ _ ?_
      try clear hK17 K17
      refine SX.ret ?_
      simp only [andThen_normal, andThen_ret, andThen_exit, inBlk_normal, inBlk_ret, inBlk_exit, Nat.reduceEqDiff, if_true, if_false, ↓reduceIte, retQ_ret]
      try simp only [res0, res1, res2, res3, stK_e, go_sem, Φa, hP, h3_0, h3_6, h3_5]
      exact ⟨_, _, Less.drop _ _, rfl, rfl, rfl⟩

def sp : ByteArray := ⟨#[32]⟩
def p3 (x : Rc) : ByteArray := ⟨#[115]⟩ ++ txt [48 + x.code] ++ ⟨#[32]⟩ ++ hexS x.ad.toNat 4 ++ ⟨#[32]⟩ ++ hexS x.data.toNat 2
def p4 (x : Rc) : ByteArray := if x.rd = true then p3 x ++ ⟨#[32, 114]⟩ else p3 x
def p5 (x : Rc) : ByteArray := if x.wr = true then p4 x ++ ⟨#[32, 119]⟩ else p4 x
def p6 (x : Rc) : ByteArray := if x.port = 0 then p5 x else p5 x ++ ⟨#[32, 110]⟩ ++ txt [48 + x.port]
def p7 (x : Rc) : ByteArray := if x.q = true then p6 x ++ ⟨#[32, 113]⟩ else p6 x
def p8 (x : Rc) : ByteArray := if x.md = 1 then p7 x ++ ⟨#[32, 112, 97, 117, 115, 101]⟩ else if x.md = 2 then p7 x ++ ⟨#[32, 114, 101, 115, 101, 116]⟩ else if x.md = 3 then p7 x ++ ⟨#[32, 108, 111, 97, 100]⟩ else p7 x
theorem p3_size (x : Rc) : (p3 x).size = 10 := by
  unfold p3
  simp only [bapp_size, hexS_size, txt_size]
  rfl
theorem p4_size (x : Rc) : (p4 x).size ≤ 12 := by unfold p4; split <;> simp only [bapp_size, p3_size] <;> decide
theorem p5_size (x : Rc) : (p5 x).size ≤ 14 := by
  have := p4_size x
  unfold p5; split
  · rw [bapp_size]; have : (⟨#[32, 119]⟩ : ByteArray).size = 2 := rfl; omega
  · omega
theorem p6_size (x : Rc) : (p6 x).size ≤ 17 := by
  have := p5_size x
  unfold p6; split
  · omega
  · rw [bapp_size, bapp_size, txt_size]; have : (⟨#[32, 110]⟩ : ByteArray).size = 2 := rfl; simp only [List.length_cons, List.length_nil]; omega
theorem p7_size (x : Rc) : (p7 x).size ≤ 19 := by
  have := p6_size x
  unfold p7; split
  · rw [bapp_size]; have : (⟨#[32, 113]⟩ : ByteArray).size = 2 := rfl; omega
  · omega
set_option maxHeartbeats 1000000 in
set_option maxRecDepth 100000 in
theorem refLine_p8 {Γ : Ctx} (hP : Γ.P = Tryd.prog) {L : Hp} {x : Rc} (ho : OkR x) (hm : mayB x = true) :
    SCall Γ 33 #[(.agg x.cells.toArray)] L (fun v L' => v = .string (p8 x) ∧ L' = L) := by
  have hcd := ho.code
  have had := ho.ad
  have hda := ho.data
  have hpo := ho.port
  have hmd := ho.md
  have ad_nat : x.ad = ((x.ad.toNat : Nat) : Int) := by omega
  have data_nat : x.data = ((x.data.toNat : Nat) : Int) := by omega
  simp only [mayB, Bool.and_eq_true, decide_eq_true_eq] at hm
  obtain ⟨⟨⟨hm1, hm2⟩, hm3⟩, hm4⟩ := hm
  refine SCall.enter (n := 60) (res1 2) (hP ▸ Tryd.func33) rfl rfl (by simp) (res1_ok rfl) ?_
  refine SX.seq_k fun K1 hK1 => ?_
  refine SX.region_d [some 1, some 2] rfl (fun ops hops => ?_)
  unfold Dsts at hops
  simp (maxSteps:=1000000)(dsimp:=false)(disch:=omega) only [go_sem, Φa, hP, hops]
  intro b0
  try with_reducible refine stI ?_
  try simp (maxSteps:=1000000)(dsimp:=false)(disch:=omega) only [go_sem, Φa, hP, hops]
  refine hK1 _ _ ?_
  try clear hK1 K1
  refine SX.live [1] (fun T1 hT1 => ?_)
  simp only [forall_mem_cons', forall_mem_nil', go_sem, Φa, hP] at hT1
  have h1_1 := hT1; clear hT1
  refine SX.join (fun (ss : Unit) T L' => T 3 = .string (p3 x) ∧ T 1 = T1 1 ∧ L' = some (b0, .cells x.cells.toArray 46 (0, 0)) :: L ∧ (True)) (fun K2 hK2 => ?_) ?_
  · simp only [h1_1] at hK2
    refine SX.drawn_d [(0, .q), (1, .q), (2, .q), (7, .q), (8, .q), (9, .q), (13, .q), (14, .q), (15, .q), (10, .c), (16, .c), (3, .e), (4, .q), (5, .q), (6, .q), (11, .q), (12, .q), (17, .q), (18, .q)] (fun L => L) (hP ▸ T.mixed) (by kernel_rfl) (by exact Less.refl _) [some 4, some 5, some 6, some 7, some 8, some 9, some 10, some 11, some 12, some 13, some 14, some 15, some 16, some 17, some 18, some 19, some 20, some 21, some 3] rfl (fun ops hops hopl => ?_)
    unfold Dsts at hops
    simp (maxSteps:=1000000)(dsimp:=false)(disch:=omega) only [go_sem, Φa, hP, h1_1, hops, hopl]
    refine ⟨_, Cell.at 0 rfl (show (Rc.cells _)[0]? = _ from rfl), ?_⟩
    try with_reducible refine stI ?_
    try simp (maxSteps:=1000000)(dsimp:=false)(disch:=omega) only [go_sem, Φa, hP, h1_1, hops, hopl]
    refine ⟨_, Cell.at 0 rfl (show (Rc.cells _)[1]? = _ from rfl), ?_⟩
    try with_reducible refine stI ?_
    try simp (maxSteps:=1000000)(dsimp:=false)(disch:=omega) only [go_sem, Φa, hP, h1_1, hops, hopl]
    rw [show (Value.int .i64 x.ad) = .int .i64 ((x.ad.toNat : Nat) : Int) by rw [← ad_nat]]
    refine ⟨_, Cell.at 0 rfl (show (Rc.cells _)[2]? = _ from rfl), ?_⟩
    try with_reducible refine stI ?_
    try simp (maxSteps:=1000000)(dsimp:=false)(disch:=omega) only [go_sem, Φa, hP, h1_1, hops, hopl]
    rw [show (Value.int .i64 x.data) = .int .i64 ((x.data.toNat : Nat) : Int) by rw [← data_nat]]
    refine ⟨_, fun L0 hl0 => refHex_spec (n := x.ad.toNat) (m := 4) hP (by decide) (by decide) (by omega), ?_⟩
    try with_reducible refine stI ?_
    try simp (maxSteps:=1000000)(dsimp:=false)(disch:=omega) only [go_sem, Φa, hP, h1_1, hops, hopl]
    refine ⟨_, fun L0 hl0 => refHex_spec (n := x.data.toNat) (m := 2) hP (by decide) (by decide) (by omega), ?_⟩
    try with_reducible refine stI ?_
    try simp (maxSteps:=1000000)(dsimp:=false)(disch:=omega) only [go_sem, Φa, hP, h1_1, hops, hopl]
    intro b7
    try with_reducible refine stI ?_
    try simp (maxSteps:=1000000)(dsimp:=false)(disch:=omega) only [go_sem, Φa, hP, h1_1, hops, hopl]
    refine conv_row (l := [48 + x.code]) (hP ▸ Tryd.underlying30) (hP ▸ Tryd.underlying9) (hP ▸ Tryd.underlying5) (SlI.own 0 rfl rfl (Nat.le_refl _)) (fun y hy => by rw [List.mem_singleton.1 hy]; omega) ?_
    try with_reducible refine stI ?_
    try simp (maxSteps:=1000000)(dsimp:=false)(disch:=omega) only [go_sem, Φa, hP, h1_1, hops, hopl]
    refine And.intro (by simp only [txt_size, hexS_size, List.length_cons, List.length_nil]; omega) ?_
    try with_reducible refine stI ?_
    try simp (maxSteps:=1000000)(dsimp:=false)(disch:=omega) only [go_sem, Φa, hP, h1_1, hops, hopl]
    refine And.intro (by simp only [txt_size, hexS_size, List.length_cons, List.length_nil]; omega) ?_
    try with_reducible refine stI ?_
    try simp (maxSteps:=1000000)(dsimp:=false)(disch:=omega) only [go_sem, Φa, hP, h1_1, hops, hopl]
    refine And.intro (by simp only [txt_size, hexS_size, List.length_cons, List.length_nil]; omega) ?_
    try with_reducible refine stI ?_
    try simp (maxSteps:=1000000)(dsimp:=false)(disch:=omega) only [go_sem, Φa, hP, h1_1, hops, hopl]
    refine And.intro (by simp only [txt_size, hexS_size, List.length_cons, List.length_nil]; omega) ?_
    try with_reducible refine stI ?_
    try simp (maxSteps:=1000000)(dsimp:=false)(disch:=omega) only [go_sem, Φa, hP, h1_1, hops, hopl]
    refine And.intro (by simp only [txt_size, hexS_size, List.length_cons, List.length_nil]; omega) ?_
    try with_reducible refine stI ?_
    try simp (maxSteps:=1000000)(dsimp:=false)(disch:=omega) only [go_sem, Φa, hP, h1_1, hops, hopl]
    refine hK2 () _ (some (b0, .cells x.cells.toArray 46 (0, 0)) :: L) _ (by exact Less.drop _ _) ?_
    try dsimp only
    refine ⟨?_, ?_, ?_, ?_⟩
    · simp (maxSteps:=1000000)(dsimp:=false)(disch:=omega) only [go_sem, Φa, hP, h1_1]
      first | done | rfl
    · simp (maxSteps:=1000000)(dsimp:=false)(disch:=omega) only [go_sem, Φa, hP, h1_1]
    · rfl
    · trivial
  · intro ss T2 L2 hI
    simp only [h1_1] at hI 
    obtain ⟨h2_3, h2_1, hL2, hinv⟩ := hI
    replace hL2 := hL2.symm
    subst hL2
    clear h1_1 T1
    refine SX.live [1, 3] (fun T3 hT3 => ?_)
    simp only [forall_mem_cons', forall_mem_nil', go_sem, Φa, hP, h2_3, h2_1] at hT3
    obtain ⟨h3_1, h3_3⟩ := hT3
    clear h2_3 h2_1 T2
    refine SX.join (fun (ss : Unit) T L' => T 3 = .string (p4 x) ∧ T 1 = T3 1 ∧ L' = some (b0, .cells x.cells.toArray 46 (0, 0)) :: L ∧ (True)) (fun K3 hK3 => ?_) ?_
    · simp only [h3_1] at hK3
      refine SX.seq_k fun K4 hK4 => ?_
      refine SX.region_d [some 22, some 23] rfl (fun ops hops => ?_)
      unfold Dsts at hops
      simp (maxSteps:=1000000)(dsimp:=false)(disch:=omega) only [go_sem, Φa, hP, h3_1, h3_3, hops]
      refine ⟨_, Cell.at 0 rfl (show (Rc.cells _)[3]? = _ from rfl), ?_⟩
      try with_reducible refine stI ?_
      try simp (maxSteps:=1000000)(dsimp:=false)(disch:=omega) only [go_sem, Φa, hP, h3_1, h3_3, hops]
      refine hK4 _ _ ?_
      try clear hK4 K4
      refine SX.cond_k fun X5 Y5 hX5 hY5 => ?_
      simp (maxSteps:=1000000)(dsimp:=false)(disch:=omega) only [go_sem, Φa, hP, h3_1, h3_3, condVC]
      refine ⟨fun hc23 => hX5 ?_, fun hc23 => hY5 ?_⟩
      · clear hX5 hY5 X5 Y5
        refine SX.region_d [some 24, some 25, some 3] rfl (fun ops hops => ?_)
        unfold Dsts at hops
        simp (maxSteps:=1000000)(dsimp:=false)(disch:=omega) only [go_sem, Φa, hP, h3_1, h3_3, hops]
        refine And.intro (by have := p3_size x; omega) ?_
        try with_reducible refine stI ?_
        try simp (maxSteps:=1000000)(dsimp:=false)(disch:=omega) only [go_sem, Φa, hP, h3_1, h3_3, hops]
        refine hK3 () _ (some (b0, .cells x.cells.toArray 46 (0, 0)) :: L) _ (by first | exact Less.refl _ | exact Less.drop _ _) ?_
        try dsimp only
        refine ⟨?_, ?_, ?_, ?_⟩
        · simp (maxSteps:=1000000)(dsimp:=false)(disch:=omega) only [go_sem, Φa, hP, h3_1, h3_3]
          first | (unfold p4; rw [if_pos hc23]; done) | (unfold p4; rw [if_pos hc23]; rfl)
        · simp (maxSteps:=1000000)(dsimp:=false)(disch:=omega) only [go_sem, Φa, hP, h3_1, h3_3]
        · rfl
        · trivial
      · clear hX5 hY5 X5 Y5
        refine SX.skip ?_
        try simp only [andThen_normal, andThen_ret, andThen_exit, inBlk_normal, inBlk_ret, inBlk_exit, Nat.reduceEqDiff, if_true, if_false, ↓reduceIte]
        refine hK3 () _ (some (b0, .cells x.cells.toArray 46 (0, 0)) :: L) _ (by first | exact Less.refl _ | exact Less.drop _ _) ?_
        try dsimp only
        refine ⟨?_, ?_, ?_, ?_⟩
        · simp (maxSteps:=1000000)(dsimp:=false)(disch:=omega) only [go_sem, Φa, hP, h3_1, h3_3]
          first | (unfold p4; rw [if_neg (by rw [hc23]; simp)]; done) | (unfold p4; rw [if_neg (by rw [hc23]; simp)]; rfl)
        · simp (maxSteps:=1000000)(dsimp:=false)(disch:=omega) only [go_sem, Φa, hP, h3_1, h3_3]
        · rfl
        · trivial
    · intro ss T4 L4 hI
      simp only [h3_1] at hI 
      obtain ⟨h4_3, h4_1, hL4, hinv⟩ := hI
      replace hL4 := hL4.symm
      subst hL4
      clear h3_1 h3_3 T3
      refine SX.live [1, 3] (fun T5 hT5 => ?_)
      simp only [forall_mem_cons', forall_mem_nil', go_sem, Φa, hP, h4_3, h4_1] at hT5
      obtain ⟨h5_1, h5_3⟩ := hT5
      clear h4_3 h4_1 T4
      refine SX.join (fun (ss : Unit) T L' => T 3 = .string (p5 x) ∧ T 1 = T5 1 ∧ L' = some (b0, .cells x.cells.toArray 46 (0, 0)) :: L ∧ (True)) (fun K6 hK6 => ?_) ?_
      · simp only [h5_1] at hK6
        refine SX.seq_k fun K7 hK7 => ?_
        refine SX.region_d [some 26, some 27] rfl (fun ops hops => ?_)
        unfold Dsts at hops
        simp (maxSteps:=1000000)(dsimp:=false)(disch:=omega) only [go_sem, Φa, hP, h5_1, h5_3, hops]
        refine ⟨_, Cell.at 0 rfl (show (Rc.cells _)[4]? = _ from rfl), ?_⟩
        try with_reducible refine stI ?_
        try simp (maxSteps:=1000000)(dsimp:=false)(disch:=omega) only [go_sem, Φa, hP, h5_1, h5_3, hops]
        refine hK7 _ _ ?_
        try clear hK7 K7
        refine SX.cond_k fun X8 Y8 hX8 hY8 => ?_
        simp (maxSteps:=1000000)(dsimp:=false)(disch:=omega) only [go_sem, Φa, hP, h5_1, h5_3, condVC]
        refine ⟨fun hc27 => hX8 ?_, fun hc27 => hY8 ?_⟩
        · clear hX8 hY8 X8 Y8
          refine SX.region_d [some 28, some 29, some 3] rfl (fun ops hops => ?_)
          unfold Dsts at hops
          simp (maxSteps:=1000000)(dsimp:=false)(disch:=omega) only [go_sem, Φa, hP, h5_1, h5_3, hops]
          refine And.intro (by have := p4_size x; omega) ?_
          try with_reducible refine stI ?_
          try simp (maxSteps:=1000000)(dsimp:=false)(disch:=omega) only [go_sem, Φa, hP, h5_1, h5_3, hops]
          refine hK6 () _ (some (b0, .cells x.cells.toArray 46 (0, 0)) :: L) _ (by first | exact Less.refl _ | exact Less.drop _ _) ?_
          try dsimp only
          refine ⟨?_, ?_, ?_, ?_⟩
          · simp (maxSteps:=1000000)(dsimp:=false)(disch:=omega) only [go_sem, Φa, hP, h5_1, h5_3]
            first | (unfold p5; rw [if_pos hc27]; done) | (unfold p5; rw [if_pos hc27]; rfl)
          · simp (maxSteps:=1000000)(dsimp:=false)(disch:=omega) only [go_sem, Φa, hP, h5_1, h5_3]
          · rfl
          · trivial
        · clear hX8 hY8 X8 Y8
          refine SX.skip ?_
          try simp only [andThen_normal, andThen_ret, andThen_exit, inBlk_normal, inBlk_ret, inBlk_exit, Nat.reduceEqDiff, if_true, if_false, ↓reduceIte]
          refine hK6 () _ (some (b0, .cells x.cells.toArray 46 (0, 0)) :: L) _ (by first | exact Less.refl _ | exact Less.drop _ _) ?_
          try dsimp only
          refine ⟨?_, ?_, ?_, ?_⟩
          · simp (maxSteps:=1000000)(dsimp:=false)(disch:=omega) only [go_sem, Φa, hP, h5_1, h5_3]
            first | (unfold p5; rw [if_neg (by rw [hc27]; simp)]; done) | (unfold p5; rw [if_neg (by rw [hc27]; simp)]; rfl)
          · simp (maxSteps:=1000000)(dsimp:=false)(disch:=omega) only [go_sem, Φa, hP, h5_1, h5_3]
          · rfl
          · trivial
      · intro ss T6 L6 hI
        simp only [h5_1] at hI 
        obtain ⟨h6_3, h6_1, hL6, hinv⟩ := hI
        replace hL6 := hL6.symm
        subst hL6
        clear h5_1 h5_3 T5
        refine SX.live [1, 3] (fun T7 hT7 => ?_)
        simp only [forall_mem_cons', forall_mem_nil', go_sem, Φa, hP, h6_3, h6_1] at hT7
        obtain ⟨h7_1, h7_3⟩ := hT7
        clear h6_3 h6_1 T6
        refine SX.join (fun (ss : Unit) T L' => T 3 = .string (p6 x) ∧ T 1 = T7 1 ∧ L' = some (b0, .cells x.cells.toArray 46 (0, 0)) :: L ∧ (True)) (fun K9 hK9 => ?_) ?_
        · simp only [h7_1] at hK9
          refine SX.seq_k fun K10 hK10 => ?_
          refine SX.region_d [some 30, some 31, some 32] rfl (fun ops hops => ?_)
          unfold Dsts at hops
          simp (maxSteps:=1000000)(dsimp:=false)(disch:=omega) only [go_sem, Φa, hP, h7_1, h7_3, hops]
          refine ⟨_, Cell.at 0 rfl (show (Rc.cells _)[5]? = _ from rfl), ?_⟩
          try with_reducible refine stI ?_
          try simp (maxSteps:=1000000)(dsimp:=false)(disch:=omega) only [go_sem, Φa, hP, h7_1, h7_3, hops]
          refine hK10 _ _ ?_
          try clear hK10 K10
          refine SX.cond_k fun X11 Y11 hX11 hY11 => ?_
          simp (maxSteps:=1000000)(dsimp:=false)(disch:=omega) only [go_sem, Φa, hP, h7_1, h7_3, condVC]
          refine ⟨fun hc32 => hX11 ?_, fun hc32 => hY11 ?_⟩
          · clear hX11 hY11 X11 Y11
            refine SX.region_d [some 33, some 34, some 35, some 36, some 37, some 38, some 39, some 40, some 3] rfl (fun ops hops => ?_)
            unfold Dsts at hops
            simp (maxSteps:=1000000)(dsimp:=false)(disch:=omega) only [go_sem, Φa, hP, h7_1, h7_3, hops]
            refine And.intro (by have := p5_size x; omega) ?_
            try with_reducible refine stI ?_
            try simp (maxSteps:=1000000)(dsimp:=false)(disch:=omega) only [go_sem, Φa, hP, h7_1, h7_3, hops]
            refine ⟨_, Cell.at 0 rfl (show (Rc.cells _)[5]? = _ from rfl), ?_⟩
            try with_reducible refine stI ?_
            try simp (maxSteps:=1000000)(dsimp:=false)(disch:=omega) only [go_sem, Φa, hP, h7_1, h7_3, hops]
            intro b38
            try with_reducible refine stI ?_
            try simp (maxSteps:=1000000)(dsimp:=false)(disch:=omega) only [go_sem, Φa, hP, h7_1, h7_3, hops]
            refine conv_row (l := [48 + x.port]) (hP ▸ Tryd.underlying30) (hP ▸ Tryd.underlying9) (hP ▸ Tryd.underlying5) (SlI.own 0 rfl rfl (Nat.le_refl _)) (fun y hy => by rw [List.mem_singleton.1 hy]; omega) ?_
            try with_reducible refine stI ?_
            try simp (maxSteps:=1000000)(dsimp:=false)(disch:=omega) only [go_sem, Φa, hP, h7_1, h7_3, hops]
            refine And.intro (by have := p5_size x; simp only [txt_size, List.length_cons, List.length_nil]; omega) ?_
            try with_reducible refine stI ?_
            try simp (maxSteps:=1000000)(dsimp:=false)(disch:=omega) only [go_sem, Φa, hP, h7_1, h7_3, hops]
            refine hK9 () _ (some (b0, .cells x.cells.toArray 46 (0, 0)) :: L) _ (by first | exact Less.refl _ | exact Less.drop _ _) ?_
            try dsimp only
            refine ⟨?_, ?_, ?_, ?_⟩
            · simp (maxSteps:=1000000)(dsimp:=false)(disch:=omega) only [go_sem, Φa, hP, h7_1, h7_3]
              first | (unfold p6; rw [if_neg (by simpa using hc32)]; done) | (unfold p6; rw [if_neg (by simpa using hc32)]; rfl)
            · simp (maxSteps:=1000000)(dsimp:=false)(disch:=omega) only [go_sem, Φa, hP, h7_1, h7_3]
            · rfl
            · trivial
          · clear hX11 hY11 X11 Y11
            refine SX.skip ?_
            try simp only [andThen_normal, andThen_ret, andThen_exit, inBlk_normal, inBlk_ret, inBlk_exit, Nat.reduceEqDiff, if_true, if_false, ↓reduceIte]
            refine hK9 () _ (some (b0, .cells x.cells.toArray 46 (0, 0)) :: L) _ (by first | exact Less.refl _ | exact Less.drop _ _) ?_
            try dsimp only
            refine ⟨?_, ?_, ?_, ?_⟩
            · simp (maxSteps:=1000000)(dsimp:=false)(disch:=omega) only [go_sem, Φa, hP, h7_1, h7_3]
              first | (unfold p6; rw [if_pos (by simpa using hc32)]; done) | (unfold p6; rw [if_pos (by simpa using hc32)]; rfl)
            · simp (maxSteps:=1000000)(dsimp:=false)(disch:=omega) only [go_sem, Φa, hP, h7_1, h7_3]
            · rfl
            · trivial
        · intro ss T8 L8 hI
          simp only [h7_1] at hI 
          obtain ⟨h8_3, h8_1, hL8, hinv⟩ := hI
          replace hL8 := hL8.symm
          subst hL8
          clear h7_1 h7_3 T7
          refine SX.live [1, 3] (fun T9 hT9 => ?_)
          simp only [forall_mem_cons', forall_mem_nil', go_sem, Φa, hP, h8_3, h8_1] at hT9
          obtain ⟨h9_1, h9_3⟩ := hT9
          clear h8_3 h8_1 T8
          refine SX.join (fun (ss : Unit) T L' => T 3 = .string (p7 x) ∧ T 1 = T9 1 ∧ L' = some (b0, .cells x.cells.toArray 46 (0, 0)) :: L ∧ (True)) (fun K12 hK12 => ?_) ?_
          · simp only [h9_1] at hK12
            refine SX.seq_k fun K13 hK13 => ?_
            refine SX.region_d [some 41, some 42] rfl (fun ops hops => ?_)
            unfold Dsts at hops
            simp (maxSteps:=1000000)(dsimp:=false)(disch:=omega) only [go_sem, Φa, hP, h9_1, h9_3, hops]
            refine ⟨_, Cell.at 0 rfl (show (Rc.cells _)[6]? = _ from rfl), ?_⟩
            try with_reducible refine stI ?_
            try simp (maxSteps:=1000000)(dsimp:=false)(disch:=omega) only [go_sem, Φa, hP, h9_1, h9_3, hops]
            refine hK13 _ _ ?_
            try clear hK13 K13
            refine SX.cond_k fun X14 Y14 hX14 hY14 => ?_
            simp (maxSteps:=1000000)(dsimp:=false)(disch:=omega) only [go_sem, Φa, hP, h9_1, h9_3, condVC]
            refine ⟨fun hc42 => hX14 ?_, fun hc42 => hY14 ?_⟩
            · clear hX14 hY14 X14 Y14
              refine SX.region_d [some 43, some 44, some 3] rfl (fun ops hops => ?_)
              unfold Dsts at hops
              simp (maxSteps:=1000000)(dsimp:=false)(disch:=omega) only [go_sem, Φa, hP, h9_1, h9_3, hops]
              refine And.intro (by have := p6_size x; omega) ?_
              try with_reducible refine stI ?_
              try simp (maxSteps:=1000000)(dsimp:=false)(disch:=omega) only [go_sem, Φa, hP, h9_1, h9_3, hops]
              refine hK12 () _ (some (b0, .cells x.cells.toArray 46 (0, 0)) :: L) _ (by first | exact Less.refl _ | exact Less.drop _ _) ?_
              try dsimp only
              refine ⟨?_, ?_, ?_, ?_⟩
              · simp (maxSteps:=1000000)(dsimp:=false)(disch:=omega) only [go_sem, Φa, hP, h9_1, h9_3]
                first | (unfold p7; rw [if_pos hc42]; done) | (unfold p7; rw [if_pos hc42]; rfl)
              · simp (maxSteps:=1000000)(dsimp:=false)(disch:=omega) only [go_sem, Φa, hP, h9_1, h9_3]
              · rfl
              · trivial
            · clear hX14 hY14 X14 Y14
              refine SX.skip ?_
              try simp only [andThen_normal, andThen_ret, andThen_exit, inBlk_normal, inBlk_ret, inBlk_exit, Nat.reduceEqDiff, if_true, if_false, ↓reduceIte]
              refine hK12 () _ (some (b0, .cells x.cells.toArray 46 (0, 0)) :: L) _ (by first | exact Less.refl _ | exact Less.drop _ _) ?_
              try dsimp only
              refine ⟨?_, ?_, ?_, ?_⟩
              · simp (maxSteps:=1000000)(dsimp:=false)(disch:=omega) only [go_sem, Φa, hP, h9_1, h9_3]
                first | (unfold p7; rw [if_neg (by rw [hc42]; simp)]; done) | (unfold p7; rw [if_neg (by rw [hc42]; simp)]; rfl)
              · simp (maxSteps:=1000000)(dsimp:=false)(disch:=omega) only [go_sem, Φa, hP, h9_1, h9_3]
              · rfl
              · trivial
          · intro ss T10 L10 hI
            simp only [h9_1] at hI 
            obtain ⟨h10_3, h10_1, hL10, hinv⟩ := hI
            replace hL10 := hL10.symm
            subst hL10
            clear h9_1 h9_3 T9
            refine SX.live [1, 3] (fun T11 hT11 => ?_)
            simp only [forall_mem_cons', forall_mem_nil', go_sem, Φa, hP, h10_3, h10_1] at hT11
            obtain ⟨h11_1, h11_3⟩ := hT11
            clear h10_3 h10_1 T10
            refine SX.join (fun (ss : Unit) T L' => T 3 = .string (p8 x) ∧ L' = some (b0, .cells x.cells.toArray 46 (0, 0)) :: L ∧ (True)) (fun K15 hK15 => ?_) ?_
            · refine SX.seq_k fun K16 hK16 => ?_
              refine SX.region_d [some 45, some 46] rfl (fun ops hops => ?_)
              unfold Dsts at hops
              simp (maxSteps:=1000000)(dsimp:=false)(disch:=omega) only [go_sem, Φa, hP, h11_1, h11_3, hops]
              refine ⟨_, Cell.at 0 rfl (show (Rc.cells _)[7]? = _ from rfl), ?_⟩
              try with_reducible refine stI ?_
              try simp (maxSteps:=1000000)(dsimp:=false)(disch:=omega) only [go_sem, Φa, hP, h11_1, h11_3, hops]
              refine hK16 _ _ ?_
              try clear hK16 K16
              refine SX.block ?_
              refine SX.seq_k fun K17 hK17 => ?_
              refine SX.region_d [some 48, some 47] rfl (fun ops hops => ?_)
              unfold Dsts at hops
              simp (maxSteps:=1000000)(dsimp:=false)(disch:=omega) only [go_sem, Φa, hP, h11_1, h11_3, hops]
              repeat' ((first | refine And.intro (by omega) ?_ | fail); try (with_reducible refine stI ?_); try simp (maxSteps:=1000000)(dsimp:=false)(disch:=omega) only [go_sem, Φa, hP, h11_1, h11_3, hops])
              refine hK17 _ _ ?_
              try clear hK17 K17
              refine SX.cond_k fun X18 Y18 hX18 hY18 => ?_
              simp (maxSteps:=1000000)(dsimp:=false)(disch:=omega) only [go_sem, Φa, hP, h11_1, h11_3, condVC]
              refine ⟨fun hc47 => hX18 ?_, fun hc47 => hY18 ?_⟩
              · clear hX18 hY18 X18 Y18
                refine SX.region_d [some 49, some 50, some 3] rfl (fun ops hops => ?_)
                unfold Dsts at hops
                simp (maxSteps:=1000000)(dsimp:=false)(disch:=omega) only [go_sem, Φa, hP, h11_1, h11_3, hops]
                refine And.intro (by have := p7_size x; omega) ?_
                try with_reducible refine stI ?_
                try simp (maxSteps:=1000000)(dsimp:=false)(disch:=omega) only [go_sem, Φa, hP, h11_1, h11_3, hops]
                refine hK15 () _ (some (b0, .cells x.cells.toArray 46 (0, 0)) :: L) _ (by first | exact Less.refl _ | exact Less.drop _ _) ?_
                try dsimp only
                refine ⟨?_, ?_, ?_⟩
                · simp (maxSteps:=1000000)(dsimp:=false)(disch:=omega) only [go_sem, Φa, hP, h11_1, h11_3]
                  (unfold p8; simp only [*]; first | done | rfl | simp)
                · rfl
                · trivial
              · clear hX18 hY18 X18 Y18
                refine SX.seq_k fun K19 hK19 => ?_
                refine SX.region_d [some 52, some 51] rfl (fun ops hops => ?_)
                unfold Dsts at hops
                simp (maxSteps:=1000000)(dsimp:=false)(disch:=omega) only [go_sem, Φa, hP, h11_1, h11_3, hops]
                repeat' ((first | refine And.intro (by omega) ?_ | fail); try (with_reducible refine stI ?_); try simp (maxSteps:=1000000)(dsimp:=false)(disch:=omega) only [go_sem, Φa, hP, h11_1, h11_3, hops])
                refine hK19 _ _ ?_
                try clear hK19 K19
                refine SX.cond_k fun X20 Y20 hX20 hY20 => ?_
                simp (maxSteps:=1000000)(dsimp:=false)(disch:=omega) only [go_sem, Φa, hP, h11_1, h11_3, condVC]
                refine ⟨fun hc51 => hX20 ?_, fun hc51 => hY20 ?_⟩
                · clear hX20 hY20 X20 Y20
                  refine SX.region_d [some 53, some 54, some 3] rfl (fun ops hops => ?_)
                  unfold Dsts at hops
                  simp (maxSteps:=1000000)(dsimp:=false)(disch:=omega) only [go_sem, Φa, hP, h11_1, h11_3, hops]
                  refine And.intro (by have := p7_size x; omega) ?_
                  try with_reducible refine stI ?_
                  try simp (maxSteps:=1000000)(dsimp:=false)(disch:=omega) only [go_sem, Φa, hP, h11_1, h11_3, hops]
                  refine hK15 () _ (some (b0, .cells x.cells.toArray 46 (0, 0)) :: L) _ (by first | exact Less.refl _ | exact Less.drop _ _) ?_
                  try dsimp only
                  refine ⟨?_, ?_, ?_⟩
                  · simp (maxSteps:=1000000)(dsimp:=false)(disch:=omega) only [go_sem, Φa, hP, h11_1, h11_3]
                    (unfold p8; simp only [*]; first | done | rfl | simp)
                  · rfl
                  · trivial
                · clear hX20 hY20 X20 Y20
                  refine SX.seq_k fun K21 hK21 => ?_
                  refine SX.region_d [some 56, some 55] rfl (fun ops hops => ?_)
                  unfold Dsts at hops
                  simp (maxSteps:=1000000)(dsimp:=false)(disch:=omega) only [go_sem, Φa, hP, h11_1, h11_3, hops]
                  repeat' ((first | refine And.intro (by omega) ?_ | fail); try (with_reducible refine stI ?_); try simp (maxSteps:=1000000)(dsimp:=false)(disch:=omega) only [go_sem, Φa, hP, h11_1, h11_3, hops])
                  refine hK21 _ _ ?_
                  try clear hK21 K21
                  refine SX.cond_k fun X22 Y22 hX22 hY22 => ?_
                  simp (maxSteps:=1000000)(dsimp:=false)(disch:=omega) only [go_sem, Φa, hP, h11_1, h11_3, condVC]
                  refine ⟨fun hc55 => hX22 ?_, fun hc55 => hY22 ?_⟩
                  · clear hX22 hY22 X22 Y22
                    refine SX.region_d [some 57, some 58, some 3] rfl (fun ops hops => ?_)
                    unfold Dsts at hops
                    simp (maxSteps:=1000000)(dsimp:=false)(disch:=omega) only [go_sem, Φa, hP, h11_1, h11_3, hops]
                    refine And.intro (by have := p7_size x; omega) ?_
                    try with_reducible refine stI ?_
                    try simp (maxSteps:=1000000)(dsimp:=false)(disch:=omega) only [go_sem, Φa, hP, h11_1, h11_3, hops]
                    refine hK15 () _ (some (b0, .cells x.cells.toArray 46 (0, 0)) :: L) _ (by first | exact Less.refl _ | exact Less.drop _ _) ?_
                    try dsimp only
                    refine ⟨?_, ?_, ?_⟩
                    · simp (maxSteps:=1000000)(dsimp:=false)(disch:=omega) only [go_sem, Φa, hP, h11_1, h11_3]
                      (unfold p8; simp only [*]; first | done | rfl | simp)
                    · rfl
                    · trivial
                  · clear hX22 hY22 X22 Y22
                    refine SX.skip ?_
                    try simp only [andThen_normal, andThen_ret, andThen_exit, inBlk_normal, inBlk_ret, inBlk_exit, Nat.reduceEqDiff, if_true, if_false, ↓reduceIte]
                    refine hK15 () _ (some (b0, .cells x.cells.toArray 46 (0, 0)) :: L) _ (by first | exact Less.refl _ | exact Less.drop _ _) ?_
                    try dsimp only
                    refine ⟨?_, ?_, ?_⟩
                    · simp (maxSteps:=1000000)(dsimp:=false)(disch:=omega) only [go_sem, Φa, hP, h11_1, h11_3]
                      (unfold p8; simp only [*]; first | done | rfl | simp)
                    · rfl
                    · trivial
            · intro ss T12 L12 hI
              obtain ⟨h12_3, hL12, hinv⟩ := hI
              replace hL12 := hL12.symm
              subst hL12
              clear h11_1 h11_3 T11
              refine SX.seq_k fun K23 hK23 => ?_
              refine SX.region_d [some 59, some 2] rfl (fun ops hops => ?_)
              unfold Dsts at hops
              simp (maxSteps:=1000000)(dsimp:=false)(disch:=omega) only [go_sem, Φa, hP, h12_3, hops]
              refine hK23 _ _ ?_
              try clear hK23 K23
              refine SX.ret ?_
              simp only [andThen_normal, andThen_ret, andThen_exit, inBlk_normal, inBlk_ret, inBlk_exit, Nat.reduceEqDiff, if_true, if_false, ↓reduceIte, retQ_ret]
              try simp only [res0, res1, res2, res3, stK_e, go_sem, Φa, hP, h12_3]
              exact ⟨_, _, Less.drop _ _, rfl, rfl, rfl⟩

end Go.Proofs.YtcenlgofldnfcaaDoor
set_option linter.unusedVariables false
set_option linter.unusedSimpArgs false
namespace Go.Proofs.YtcenlgofldnfcaaDoor
open Go.RowKit Go.SX Go.Proofs
/-! The document's line is the program's. -/
theorem ba_ext {a b : ByteArray} (h : a.data.toList = b.data.toList) : a = b := by
  cases a; cases b
  simp only [ByteArray.mk.injEq]
  exact Array.toList_inj.1 h
theorem ba_app (a b : ByteArray) : (a ++ b).data.toList = a.data.toList ++ b.data.toList := by simp
def tlW (w : ByteArray) : List UInt8 := if w = ⟨#[]⟩ then [] else 32 :: w.data.toList
theorem jt (ws : List ByteArray) : Lib.joinTail [32] ((ws.filter (fun s => !decide (s = ⟨#[]⟩))).map (·.data.toList)) = (ws.map tlW).flatten := by
  induction ws with
  | nil => rfl
  | cons w ws ih =>
    by_cases h : w = ⟨#[]⟩
    · rw [List.filter_cons_of_neg (by simp [h]), ih, List.map_cons, List.flatten_cons]
      unfold tlW
      rw [if_pos h, List.nil_append]
    · rw [List.filter_cons_of_pos (by simp [h]), List.map_cons, List.map_cons, List.flatten_cons, ← ih]
      unfold tlW Lib.joinTail
      rw [if_neg h, List.map_cons, List.flatten_cons]
      simp
theorem ne_of_size {s : ByteArray} (h : 0 < s.size) : ¬ s = ⟨#[]⟩ := fun e => by rw [e] at h; exact absurd h (by decide)
theorem accW_8 (x : Rc) : accW x 8 = wordAt x 0 :: wordAt x 1 :: wordAt x 2 :: ([wordAt x 3, wordAt x 4, wordAt x 5, wordAt x 6, wordAt x 7].filter (fun s => !decide (s = ⟨#[]⟩))) := by
  have h0 : ¬ wordAt x 0 = ⟨#[]⟩ := ne_of_size (by show 0 < (_ ++ _ : ByteArray).size; rw [bapp_size, hexS_size]; omega)
  have h1 : ¬ wordAt x 1 = ⟨#[]⟩ := ne_of_size (by show 0 < (hexS _ _).size; rw [hexS_size]; omega)
  have h2 : ¬ wordAt x 2 = ⟨#[]⟩ := ne_of_size (by show 0 < (hexS _ _).size; rw [hexS_size]; omega)
  show (([0, 1, 2, 3, 4, 5, 6, 7] : List Nat).map (wordAt x)).filter _ = _
  simp only [List.map_cons, List.map_nil]
  rw [List.filter_cons_of_pos (by simp [h0]), List.filter_cons_of_pos (by simp [h1]), List.filter_cons_of_pos (by simp [h2])]
theorem lineS_list (x : Rc) : (lineS x).data.toList = (wordAt x 0).data.toList ++ (32 :: (wordAt x 1).data.toList ++ (32 :: (wordAt x 2).data.toList ++ (tlW (wordAt x 3) ++ (tlW (wordAt x 4) ++ (tlW (wordAt x 5) ++ (tlW (wordAt x 6) ++ tlW (wordAt x 7))))))) := by
  show Lib.join ((accW x 8).map (·.data.toList)) [32] = _
  rw [accW_8, List.map_cons, List.map_cons, List.map_cons, Lib.join_cons]
  have h := jt [wordAt x 3, wordAt x 4, wordAt x 5, wordAt x 6, wordAt x 7]
  unfold Lib.joinTail at h ⊢
  rw [List.map_cons, List.map_cons, List.flatten_cons, List.flatten_cons, h]
  simp
theorem hex1 {c : Int} (h : 0 ≤ c ∧ c ≤ 7) : hexS c.toNat 1 = txt [48 + c] := by
  unfold hexS
  show txt ([] ++ [dg c.toNat]) = _
  rw [dg_low c.toNat (by omega), List.nil_append, show ((c.toNat : Nat) : Int) = c by omega]
theorem whenL (b : Bool) (s : ByteArray) (h : ¬ s = ⟨#[]⟩) : tlW (whenS b s) = if b = true then 32 :: s.data.toList else [] := by
  cases b
  · rfl
  · show tlW s = _
    unfold tlW
    rw [if_neg h]; rfl
theorem lineS_eq {x : Rc} (ho : OkR x) (hm : mayB x = true) : lineS x = p8 x := by
  have hcd := ho.code
  have hpo := ho.port
  have hmd := ho.md
  simp only [mayB, Bool.and_eq_true, decide_eq_true_eq] at hm
  obtain ⟨⟨⟨hm1, hm2⟩, hm3⟩, hm4⟩ := hm
  refine ba_ext ?_
  rw [lineS_list]
  have e3 : (p3 x).data.toList = (wordAt x 0).data.toList ++ (32 :: (wordAt x 1).data.toList ++ 32 :: (wordAt x 2).data.toList) := by
    show _ = ((⟨#[115]⟩ : ByteArray) ++ hexS x.code.toNat 1).data.toList ++ (32 :: (hexS x.ad.toNat 4).data.toList ++ 32 :: (hexS x.data.toNat 2).data.toList)
    rw [hex1 (by omega)]
    unfold p3
    simp only [ba_app]
    simp
  have e4 : (p4 x).data.toList = (p3 x).data.toList ++ tlW (wordAt x 3) := by
    show _ = _ ++ tlW (whenS x.rd ⟨#[114]⟩)
    rw [whenL _ _ (ne_of_size (by decide))]
    unfold p4
    split
    · rw [ba_app]
    · rw [List.append_nil]
  have e5 : (p5 x).data.toList = (p4 x).data.toList ++ tlW (wordAt x 4) := by
    show _ = _ ++ tlW (whenS x.wr ⟨#[119]⟩)
    rw [whenL _ _ (ne_of_size (by decide))]
    unfold p5
    split
    · rw [ba_app]
    · rw [List.append_nil]
  have e6 : (p6 x).data.toList = (p5 x).data.toList ++ tlW (wordAt x 5) := by
    show _ = _ ++ tlW (whenS (!decide (x.port = 0)) (⟨#[110]⟩ ++ hexS x.port.toNat 1))
    rw [whenL _ _ (ne_of_size (by rw [bapp_size]; have : (⟨#[110]⟩ : ByteArray).size = 1 := rfl; omega)), hex1 (by omega)]
    unfold p6
    by_cases h : x.port = 0
    · rw [if_pos h, if_neg (by simp [h]), List.append_nil]
    · rw [if_neg h, if_pos (by simp [h])]
      simp only [ba_app]
      simp
  have e7 : (p7 x).data.toList = (p6 x).data.toList ++ tlW (wordAt x 6) := by
    show _ = _ ++ tlW (whenS x.q ⟨#[113]⟩)
    rw [whenL _ _ (ne_of_size (by decide))]
    unfold p7
    split
    · rw [ba_app]
    · rw [List.append_nil]
  have e8 : (p8 x).data.toList = (p7 x).data.toList ++ tlW (wordAt x 7) := by
    show _ = _ ++ tlW (mdL.getD (x.md.toNat % 4) ⟨#[]⟩)
    unfold p8
    rcases (by omega : x.md = 0 ∨ x.md = 1 ∨ x.md = 2 ∨ x.md = 3) with h | h | h | h <;> rw [h]
    · rw [if_neg (by decide), if_neg (by decide), if_neg (by decide)]
      exact (List.append_nil _).symm
    · rw [if_pos rfl, ba_app]; rfl
    · rw [if_neg (by decide), if_pos rfl, ba_app]; rfl
    · rw [if_neg (by decide), if_neg (by decide), if_pos rfl, ba_app]; rfl
  rw [e8, e7, e6, e5, e4, e3]
  simp
theorem refLine_spec {Γ : Ctx} (hP : Γ.P = Tryd.prog) {L : Hp} {x : Rc} (ho : OkR x) (hm : mayB x = true) : SCall Γ 33 #[.agg x.cells.toArray] L (fun v L' => v = .string (lineS x) ∧ L' = L) := by
  rw [lineS_eq ho hm]
  exact refLine_p8 hP ho hm
end Go.Proofs.YtcenlgofldnfcaaDoor
set_option linter.unusedVariables false
set_option linter.unusedSimpArgs false
namespace Go.Proofs.YtcenlgofldnfcaaDoor
open Go.RowKit Go.SX Go.Proofs

end Go.Proofs.YtcenlgofldnfcaaDoor
set_option linter.unusedVariables false
set_option linter.unusedSimpArgs false
namespace Go.Proofs.YtcenlgofldnfcaaDoor
open Go.RowKit Go.SX Go.Proofs

/-! The document's bytes. -/
def v0 (x : Rc) : Int := x.code + 32 * x.md
def v1 (x : Rc) : Int := if x.rd = true then v0 x + 4 else v0 x
def v2 (x : Rc) : Int := if x.wr = true then v1 x + 8 else v1 x
def v3 (x : Rc) : Int := if x.q = true then v2 x + 16 else v2 x
def v4 (x : Rc) (next : Int) : Int := if farB x next = true then v3 x + 128 else v3 x
end Go.Proofs.YtcenlgofldnfcaaDoor
set_option linter.unusedVariables false
set_option linter.unusedSimpArgs false
namespace Go.Proofs.YtcenlgofldnfcaaDoor
open Go.RowKit Go.SX Go.Proofs

end Go.Proofs.YtcenlgofldnfcaaDoor
set_option linter.unusedVariables false
set_option linter.unusedSimpArgs false
namespace Go.Proofs.YtcenlgofldnfcaaDoor
open Go.RowKit Go.SX Go.Proofs

/-! The document's reader. -/
end Go.Proofs.YtcenlgofldnfcaaDoor
set_option linter.unusedVariables false
set_option linter.unusedSimpArgs false
namespace Go.Proofs.YtcenlgofldnfcaaDoor
open Go.RowKit Go.SX Go.Proofs

end Go.Proofs.YtcenlgofldnfcaaDoor
set_option linter.unusedVariables false
set_option linter.unusedSimpArgs false
namespace Go.Proofs.YtcenlgofldnfcaaDoor
open Go.RowKit Go.SX Go.Proofs
open Go.SX renaming ia_someH → Φa

/-! What is told is nobody else's. -/
theorem lessOwn {a b c : Slot} {L : Hp} : Less (a :: b :: c :: L) (a :: c :: b :: none :: L) :=
  (Less.none _).trans (Less.perm ((List.Perm.swap _ _ _).trans (.cons _ ((List.Perm.cons _ (List.Perm.swap _ _ _)).trans ((List.Perm.swap _ _ _).trans (.cons _ (List.Perm.swap _ _ _)))))))
set_option maxHeartbeats 1000000 in
set_option maxRecDepth 100000 in
theorem own_spec {Γ : Ctx} (hP : Γ.P = Tryd.prog) {L : Hp} {w : List Rc} {va vb vu : Value} {sa sb su : Slot} (hra : RowL Rc.cells 46 8 va w sa) (hrb : RowL Rc.cells 46 8 vb w sb) (hru : RowL Rc.cells 46 8 vu w su) (how : ∀ r ∈ w, OkR r) (hwl : w.length ≤ 5000000) :
    SCall Γ 20 #[va, vb, vu] (su :: sb :: sa :: L) (fun v L' => v = .bool true ∧ L' = L) := by
  obtain ⟨A1, k1, rfl, hk1, -⟩ := Row.form hra
  obtain ⟨A2, k2, rfl, hk2, -⟩ := Row.form hrb
  obtain ⟨A3, k3, rfl, hk3, -⟩ := Row.form hru
  refine SCall.enter (n := 80) (res1 6) (hP ▸ Tryd.func20) rfl rfl (by simp) (res1_ok rfl) ?_
  refine SX.seq_k fun K1 hK1 => ?_
  refine SX.region_d [some 6] rfl (fun ops hops => ?_)
  unfold Dsts at hops
  simp (maxSteps:=1000000)(dsimp:=false)(disch:=omega) only [go_sem, Φa, hP, hops]
  refine hK1 _ _ ?_
  try clear hK1 K1
  refine SX.seq_k fun K2 hK2 => ?_
  refine SX.seq_k fun K3 hK3 => ?_
  refine SX.less (L' := su :: sa :: sb :: none :: L) lessOwn ?_
  refine SX.region_d [some 13, some 14, some 15, some 16, some 17, some 18, some 19, some 20, some 21, some 22] rfl (fun ops hops => ?_)
  unfold Dsts at hops
  simp (maxSteps:=1000000)(dsimp:=false)(disch:=omega) only [go_sem, Φa, hP, hops]
  (refine SCall.mono (same_spec (a := w) (b := w) hP (RowL.sl (L := su :: sa :: sb :: none :: L) (i := 1) Rc.len hra rfl) (RowL.sl (L := su :: sa :: sb :: none :: L) (i := 0) Rc.len hru rfl) how how (by omega) (by omega)) ?_; rintro v_ L_ ⟨hv_, hL_⟩; rw [hv_, hL_, decide_eq_true rfl]; clear hv_ hL_ v_ L_)
  try with_reducible refine stI ?_
  try simp (maxSteps:=1000000)(dsimp:=false)(disch:=omega) only [go_sem, Φa, hP, hops]
  (refine SCall.mono (same_spec (a := w) (b := w) hP (RowL.sl (L := su :: sa :: sb :: none :: L) (i := 2) Rc.len hrb rfl) (RowL.sl (L := su :: sa :: sb :: none :: L) (i := 0) Rc.len hru rfl) how how (by omega) (by omega)) ?_; rintro v_ L_ ⟨hv_, hL_⟩; rw [hv_, hL_, decide_eq_true rfl]; clear hv_ hL_ v_ L_)
  try with_reducible refine stI ?_
  try simp (maxSteps:=1000000)(dsimp:=false)(disch:=omega) only [go_sem, Φa, hP, hops]
  refine hK3 _ _ ?_
  try clear hK3 K3
  refine SX.live [0, 1, 2, 22] (fun T1 hT1 => ?_)
  simp only [forall_mem_cons', forall_mem_nil', go_sem, Φa, hP] at hT1
  obtain ⟨h1_0, h1_1, h1_2, h1_22⟩ := hT1
  refine SX.cond_k fun X4 Y4 hX4 hY4 => ?_
  simp (maxSteps:=1000000)(dsimp:=false)(disch:=omega) only [go_sem, Φa, hP, h1_0, h1_1, h1_2, h1_22, condVC]
  refine hY4 ?_
  clear hX4 hY4 X4 Y4
  refine SX.skip ?_
  try simp only [andThen_normal, andThen_ret, andThen_exit, inBlk_normal, inBlk_ret, inBlk_exit, Nat.reduceEqDiff, if_true, if_false, ↓reduceIte]
  refine hK2 _ _ ?_
  try clear hK2 K2
  refine SX.seq_k fun K5 hK5 => ?_
  refine SX.seq_k fun K6 hK6 => ?_
  refine SX.region_d [some 7] rfl (fun ops hops => ?_)
  unfold Dsts at hops
  simp (maxSteps:=1000000)(dsimp:=false)(disch:=omega) only [go_sem, Φa, hP, h1_0, h1_1, h1_2, h1_22, hops]
  refine hK6 _ _ ?_
  try clear hK6 K6
  refine SX.block ?_
  refine SX.live [0, 1, 2, 7] (fun T2 hT2 => ?_)
  simp only [forall_mem_cons', forall_mem_nil', go_sem, Φa, hP, h1_0, h1_1, h1_2, h1_22] at hT2
  obtain ⟨h2_0, h2_1, h2_2, h2_7⟩ := hT2
  clear h1_0 h1_1 h1_2 h1_22 T1
  refine SX.loop_k (fun (ss : (Nat) × (List Rc) × (Slot)) T L' => (fun (i : Nat) (l1 : List Rc) (s1 : Slot) => T 7 = .int .i64 (i : Int) ∧ T 0 = T2 0 ∧ T 1 = T2 1 ∧ T 2 = T2 2 ∧ L' = su :: s1 :: sb :: none :: L ∧ (i ≤ w.length ∧ RowL Rc.cells 46 8 (.slice A1 w.length k1) (l1) s1 ∧ l1.length = w.length)) (ss.1) (ss.2.1) (ss.2.2)) (fun (ss : (Nat) × (List Rc) × (Slot)) => (fun (i : Nat) (l1 : List Rc) (s1 : Slot) => w.length - i) (ss.1) (ss.2.1) (ss.2.2)) (0, w, sa) ?_ ?_
  · try dsimp only
    refine ⟨?_, ?_, ?_, ?_, ?_, ?_⟩
    · first | exact h2_7 | (rw [h2_7]; rfl) | (rw [h2_7]; simp; done)
    · rfl
    · rfl
    · rfl
    · rfl
    · exact ⟨Nat.zero_le _, hra, rfl⟩
  · intro ss T3 L3 hI K7 hK7
    obtain ⟨i, l1, s1⟩ := ss
    try dsimp only at hI hK7
    simp only [h2_0, h2_1, h2_2] at hI hK7
    obtain ⟨h3_7, h3_0, h3_1, h3_2, hL3, ⟨hi, hr1, hl1⟩⟩ := hI
    replace hL3 := hL3.symm
    subst hL3
    clear h2_0 h2_1 h2_2 h2_7 T2
    refine SX.seq_k fun K8 hK8 => ?_
    refine SX.seq_k fun K9 hK9 => ?_
    refine SX.region_d [some 23, some 24, some 25, some 26] rfl (fun ops hops => ?_)
    unfold Dsts at hops
    simp (maxSteps:=1000000)(dsimp:=false)(disch:=omega) only [go_sem, Φa, hP, h3_7, h3_0, h3_1, h3_2, hops]
    repeat' ((first | refine And.intro (by omega) ?_ | fail); try (with_reducible refine stI ?_); try simp (maxSteps:=1000000)(dsimp:=false)(disch:=omega) only [go_sem, Φa, hP, h3_7, h3_0, h3_1, h3_2, hops])
    refine hK9 _ _ ?_
    try clear hK9 K9
    refine SX.cond_k fun X10 Y10 hX10 hY10 => ?_
    simp (maxSteps:=1000000)(dsimp:=false)(disch:=omega) only [go_sem, Φa, hP, h3_7, h3_0, h3_1, h3_2, condVC]
    refine ⟨fun hc26 => hX10 ?_, fun hc26 => hY10 ?_⟩
    · clear hX10 hY10 X10 Y10
      refine SX.skip ?_
      try simp only [andThen_normal, andThen_ret, andThen_exit, inBlk_normal, inBlk_ret, inBlk_exit, Nat.reduceEqDiff, if_true, if_false, ↓reduceIte]
      refine hK8 _ _ ?_
      try clear hK8 K8
      refine SX.seq_k fun K11 hK11 => ?_
      refine SX.block ?_
      have hil : i < l1.length := by omega
      obtain ⟨g, cap, junk, hv_, rfl, hcap, hjl⟩ := RowL.form hr1 (by omega)
      simp only [Value.slice.injEq] at hv_
      obtain ⟨hA1_, hln_, hk1_⟩ := hv_
      have hset := setN_flat (f := Rc.cells) (sz := 8) (junk := junk) (o := 0) (y := rK 79) (vs := (rK 79).cells) Rc.len (getD_get (d := default) hil) (put_rc rfl) (Nat.le_refl 8)
      rw [Nat.add_zero] at hset
      simp only [rK, Rc.cells, setN] at hset
      have hfl := flat_len Rc.len l1
      refine SX.region_d [some 29, some 30, some 31, some 32, none] rfl (fun ops hops => ?_)
      unfold Dsts at hops
      simp (maxSteps:=1000000)(dsimp:=false)(disch:=omega) only [go_sem, Φa, hP, h3_7, h3_0, h3_1, h3_2, hops, hA1_]
      refine ⟨1, _, _, _, rfl, (by rw [List.length_append, hfl]; show i * 8 + 8 ≤ _; omega), .inr (Nat.zero_le _), ?_⟩
      try with_reducible refine stI ?_
      try simp (maxSteps:=1000000)(dsimp:=false)(disch:=omega) only [go_sem, Φa, hP, h3_7, h3_0, h3_1, h3_2, hops, hA1_]
      rw [hset]
      refine hK11 _ _ ?_
      try clear hK11 K11
      refine SX.region_d [some 27, some 28, some 7] rfl (fun ops hops => ?_)
      unfold Dsts at hops
      simp (maxSteps:=1000000)(dsimp:=false)(disch:=omega) only [go_sem, Φa, hP, h3_7, h3_0, h3_1, h3_2, hops]
      repeat' ((first | refine And.intro (by omega) ?_ | fail); try (with_reducible refine stI ?_); try simp (maxSteps:=1000000)(dsimp:=false)(disch:=omega) only [go_sem, Φa, hP, h3_7, h3_0, h3_1, h3_2, hops])
      refine hK7 (i + 1, l1.set i (rK 79), some (g, .cells ((l1.set i (rK 79)).flatMap Rc.cells ++ junk).toArray 46 (0, 0))) _ (su :: (some (g, .cells ((l1.set i (rK 79)).flatMap Rc.cells ++ junk).toArray 46 (0, 0))) :: sb :: none :: L) _ (by first | exact Less.refl _ | exact Less.drop _ _ | exact Less.drops (Less.drop _ _) | exact Less.drops (Less.drops (Less.drop _ _)) | exact Less.drops (Less.drops (Less.drops (Less.drop _ _))) | exact Less.drops (Less.drops (Less.drops (Less.drops (Less.drop _ _))))) ?_ ?_
      · try dsimp only
        refine ⟨?_, ?_, ?_, ?_, ?_, ?_⟩
        · simp (maxSteps:=1000000)(dsimp:=false)(disch:=omega) only [go_sem, Φa, hP, h3_7, h3_0, h3_1, h3_2]
          first | done | rfl | skip
        · simp (maxSteps:=1000000)(dsimp:=false)(disch:=omega) only [go_sem, Φa, hP, h3_7, h3_0, h3_1, h3_2]
        · simp (maxSteps:=1000000)(dsimp:=false)(disch:=omega) only [go_sem, Φa, hP, h3_7, h3_0, h3_1, h3_2]
        · simp (maxSteps:=1000000)(dsimp:=false)(disch:=omega) only [go_sem, Φa, hP, h3_7, h3_0, h3_1, h3_2]
        · rfl
        · have hmk := RowL.mk (e := 46) (g := g) (cap := cap) (junk := junk) (l := l1.set i (rK 79)) Rc.len (by rw [List.length_set]; exact hcap) (by rw [List.length_append, flat_len Rc.len, List.length_set, ← flat_len Rc.len, ← List.length_append]; exact hjl)
          rw [List.length_set, hl1, ← hA1_, ← hk1_] at hmk
          exact ⟨by omega, hmk, by rw [List.length_set]; exact hl1⟩
      · (try dsimp only); omega
    · clear hX10 hY10 X10 Y10
      refine SX.exit ?_
      try simp only [andThen_normal, andThen_ret, andThen_exit, inBlk_normal, inBlk_ret, inBlk_exit, Nat.reduceEqDiff, if_true, if_false, ↓reduceIte]
      refine hK5 _ _ ?_
      try clear hK5 K5
      refine SX.seq_k fun K12 hK12 => ?_
      refine SX.region_d [some 33, some 8] rfl (fun ops hops => ?_)
      unfold Dsts at hops
      simp (maxSteps:=1000000)(dsimp:=false)(disch:=omega) only [go_sem, Φa, hP, h3_7, h3_0, h3_1, h3_2, hops]
      refine hK12 _ _ ?_
      try clear hK12 K12
      refine SX.seq_k fun K13 hK13 => ?_
      refine SX.seq_k fun K14 hK14 => ?_
      refine SX.region_d [some 9] rfl (fun ops hops => ?_)
      unfold Dsts at hops
      simp (maxSteps:=1000000)(dsimp:=false)(disch:=omega) only [go_sem, Φa, hP, h3_7, h3_0, h3_1, h3_2, hops]
      refine hK14 _ _ ?_
      try clear hK14 K14
      refine SX.block ?_
      refine SX.live [1, 2, 8, 9] (fun T4 hT4 => ?_)
      simp only [forall_mem_cons', forall_mem_nil', go_sem, Φa, hP, h3_7, h3_0, h3_1, h3_2] at hT4
      obtain ⟨h4_1, h4_2, h4_8, h4_9⟩ := hT4
      clear h3_7 h3_0 h3_1 h3_2 T3
      refine SX.loop_k (fun (ss : (Nat) × (Value) × (Slot)) T L' => (fun (jx : Nat) (vx : Value) (sx : Slot) => T 8 = vx ∧ T 9 = .int .i64 (jx : Int) ∧ T 1 = T4 1 ∧ T 2 = T4 2 ∧ L' = su :: sx :: sb :: none :: L ∧ (jx ≤ 30 ∧ RowL Rc.cells 46 8 vx (l1 ++ List.replicate jx (rK 80)) sx)) (ss.1) (ss.2.1) (ss.2.2)) (fun (ss : (Nat) × (Value) × (Slot)) => (fun (jx : Nat) (vx : Value) (sx : Slot) => 30 - jx) (ss.1) (ss.2.1) (ss.2.2)) (0, .slice A1 w.length k1, s1) ?_ ?_
      · try dsimp only
        refine ⟨?_, ?_, ?_, ?_, ?_, ?_⟩
        · first | exact h4_8 | (rw [h4_8]; rfl) | (rw [h4_8]; simp; done)
        · first | exact h4_9 | (rw [h4_9]; rfl) | (rw [h4_9]; simp; done)
        · rfl
        · rfl
        · rfl
        · refine ⟨Nat.zero_le _, ?_⟩
          rw [List.replicate_zero, List.append_nil, ← hl1]
          rw [← hl1] at hr1
          exact hr1
      · intro ss T5 L5 hI K15 hK15
        obtain ⟨jx, vx, sx⟩ := ss
        try dsimp only at hI hK15
        simp only [h4_1, h4_2] at hI hK15
        obtain ⟨h5_8, h5_9, h5_1, h5_2, hL5, ⟨hj, hrx⟩⟩ := hI
        replace hL5 := hL5.symm
        subst hL5
        clear h4_1 h4_2 h4_8 h4_9 T4
        refine SX.seq_k fun K16 hK16 => ?_
        refine SX.seq_k fun K17 hK17 => ?_
        refine SX.region_d [some 34, some 35] rfl (fun ops hops => ?_)
        unfold Dsts at hops
        simp (maxSteps:=1000000)(dsimp:=false)(disch:=omega) only [go_sem, Φa, hP, h5_8, h5_9, h5_1, h5_2, hops]
        repeat' ((first | refine And.intro (by omega) ?_ | fail); try (with_reducible refine stI ?_); try simp (maxSteps:=1000000)(dsimp:=false)(disch:=omega) only [go_sem, Φa, hP, h5_8, h5_9, h5_1, h5_2, hops])
        refine hK17 _ _ ?_
        try clear hK17 K17
        refine SX.cond_k fun X18 Y18 hX18 hY18 => ?_
        simp (maxSteps:=1000000)(dsimp:=false)(disch:=omega) only [go_sem, Φa, hP, h5_8, h5_9, h5_1, h5_2, condVC]
        refine ⟨fun hc35 => hX18 ?_, fun hc35 => hY18 ?_⟩
        · clear hX18 hY18 X18 Y18
          refine SX.skip ?_
          try simp only [andThen_normal, andThen_ret, andThen_exit, inBlk_normal, inBlk_ret, inBlk_exit, Nat.reduceEqDiff, if_true, if_false, ↓reduceIte]
          refine hK16 _ _ ?_
          try clear hK16 K16
          refine SX.seq_k fun K19 hK19 => ?_
          refine SX.block ?_
          refine SX.region_d [some 38, some 39, some 40, some 41, some 8] rfl (fun ops hops => ?_)
          unfold Dsts at hops
          simp (maxSteps:=1000000)(dsimp:=false)(disch:=omega) only [go_sem, Φa, hP, h5_8, h5_9, h5_1, h5_2, hops]
          intro b1
          try with_reducible refine stI ?_
          try simp (maxSteps:=1000000)(dsimp:=false)(disch:=omega) only [go_sem, Φa, hP, h5_8, h5_9, h5_1, h5_2, hops]
          refine YAppend.rowL (z := [.int .u8 0, .int .u16 0, .int .u8 0, .bool false, .bool false, .int .u8 0, .bool false, .int .u8 0]) (f := Rc.cells) (x := rK 80) (i := 1) (hP ▸ T.elS_23) (hP ▸ T.zr_46) rfl rfl rfl rfl hrx (by rw [List.length_append, List.length_replicate]; omega) (by decide) (fun vx2 sx2 hrx2 => ?_)
          try with_reducible refine stI ?_
          try simp (maxSteps:=1000000)(dsimp:=false)(disch:=omega) only [go_sem, Φa, hP, h5_8, h5_9, h5_1, h5_2, hops]
          refine hK19 _ _ ?_
          try clear hK19 K19
          refine SX.region_d [some 36, some 37, some 9] rfl (fun ops hops => ?_)
          unfold Dsts at hops
          simp (maxSteps:=1000000)(dsimp:=false)(disch:=omega) only [go_sem, Φa, hP, h5_8, h5_9, h5_1, h5_2, hops]
          repeat' ((first | refine And.intro (by omega) ?_ | fail); try (with_reducible refine stI ?_); try simp (maxSteps:=1000000)(dsimp:=false)(disch:=omega) only [go_sem, Φa, hP, h5_8, h5_9, h5_1, h5_2, hops])
          refine hK15 (jx + 1, vx2, sx2) _ (su :: sx2 :: sb :: none :: L) _ (by first | exact Less.refl _ | exact Less.drop _ _ | exact Less.drops (Less.drop _ _) | exact Less.drops (Less.drops (Less.drop _ _)) | exact Less.drops (Less.drops (Less.drops (Less.drop _ _))) | exact Less.drops (Less.drops (Less.drops (Less.drops (Less.drop _ _))))) ?_ ?_
          · try dsimp only
            refine ⟨?_, ?_, ?_, ?_, ?_, ?_⟩
            · simp (maxSteps:=1000000)(dsimp:=false)(disch:=omega) only [go_sem, Φa, hP, h5_8, h5_9, h5_1, h5_2]
              first | done | rfl | skip
            · simp (maxSteps:=1000000)(dsimp:=false)(disch:=omega) only [go_sem, Φa, hP, h5_8, h5_9, h5_1, h5_2]
              first | done | rfl | skip
            · simp (maxSteps:=1000000)(dsimp:=false)(disch:=omega) only [go_sem, Φa, hP, h5_8, h5_9, h5_1, h5_2]
            · simp (maxSteps:=1000000)(dsimp:=false)(disch:=omega) only [go_sem, Φa, hP, h5_8, h5_9, h5_1, h5_2]
            · rfl
            · refine ⟨by omega, ?_⟩
              rw [show List.replicate (jx + 1) (rK 80) = List.replicate jx (rK 80) ++ [(rK 80)] from List.replicate_succ']
              rw [← List.append_assoc]
              exact hrx2
          · (try dsimp only); omega
        · clear hX18 hY18 X18 Y18
          refine SX.exit ?_
          try simp only [andThen_normal, andThen_ret, andThen_exit, inBlk_normal, inBlk_ret, inBlk_exit, Nat.reduceEqDiff, if_true, if_false, ↓reduceIte]
          refine hK13 _ _ ?_
          try clear hK13 K13
          refine SX.seq_k fun K20 hK20 => ?_
          refine SX.seq_k fun K21 hK21 => ?_
          refine SX.region_d [some 42, some 43, some 44, some 45] rfl (fun ops hops => ?_)
          unfold Dsts at hops
          simp (maxSteps:=1000000)(dsimp:=false)(disch:=omega) only [go_sem, Φa, hP, h5_8, h5_9, h5_1, h5_2, hops]
          (refine SCall.mono (same_spec (a := w) (b := w) hP (RowL.sl (L := su :: sx :: sb :: none :: L) (i := 2) Rc.len hrb rfl) (RowL.sl (L := su :: sx :: sb :: none :: L) (i := 0) Rc.len hru rfl) how how (by omega) (by omega)) ?_; rintro v_ L_ ⟨hv_, hL_⟩; rw [hv_, hL_, decide_eq_true rfl]; clear hv_ hL_ v_ L_)
          try with_reducible refine stI ?_
          try simp (maxSteps:=1000000)(dsimp:=false)(disch:=omega) only [go_sem, Φa, hP, h5_8, h5_9, h5_1, h5_2, hops]
          refine hK21 _ _ ?_
          try clear hK21 K21
          refine SX.cond_k fun X22 Y22 hX22 hY22 => ?_
          simp (maxSteps:=1000000)(dsimp:=false)(disch:=omega) only [go_sem, Φa, hP, h5_8, h5_9, h5_1, h5_2, condVC]
          refine hY22 ?_
          clear hX22 hY22 X22 Y22
          refine SX.skip ?_
          try simp only [andThen_normal, andThen_ret, andThen_exit, inBlk_normal, inBlk_ret, inBlk_exit, Nat.reduceEqDiff, if_true, if_false, ↓reduceIte]
          refine hK20 _ _ ?_
          try clear hK20 K20
          refine SX.seq_k fun K23 hK23 => ?_
          refine SX.region_d [some 46, some 10] rfl (fun ops hops => ?_)
          unfold Dsts at hops
          simp (maxSteps:=1000000)(dsimp:=false)(disch:=omega) only [go_sem, Φa, hP, h5_8, h5_9, h5_1, h5_2, hops]
          refine hK23 _ _ ?_
          try clear hK23 K23
          refine SX.seq_k fun K24 hK24 => ?_
          refine SX.seq_k fun K25 hK25 => ?_
          refine SX.region_d [some 11] rfl (fun ops hops => ?_)
          unfold Dsts at hops
          simp (maxSteps:=1000000)(dsimp:=false)(disch:=omega) only [go_sem, Φa, hP, h5_8, h5_9, h5_1, h5_2, hops]
          refine hK25 _ _ ?_
          try clear hK25 K25
          refine SX.live [1, 2, 8, 10, 11] (fun T6 hT6 => ?_)
          simp only [forall_mem_cons', forall_mem_nil', go_sem, Φa, hP, h5_8, h5_9, h5_1, h5_2] at hT6
          obtain ⟨h6_1, h6_2, h6_8, h6_10, h6_11⟩ := hT6
          clear h5_8 h5_9 h5_1 h5_2 T5
          refine SX.block ?_
          refine SX.live [1, 2, 8, 10, 11] (fun T7 hT7 => ?_)
          simp only [forall_mem_cons', forall_mem_nil', go_sem, Φa, hP, h6_1, h6_2, h6_8, h6_10, h6_11] at hT7
          obtain ⟨h7_1, h7_2, h7_8, h7_10, h7_11⟩ := hT7
          clear h6_1 h6_2 h6_8 h6_10 h6_11 T6
          refine SX.loop_k (fun (ss : (Nat) × (Value) × (Slot) × (Slot)) T L' => (fun (jy : Nat) (vy : Value) (sy : Slot) (t : Slot) => T 10 = vy ∧ T 11 = .int .i64 (jy : Int) ∧ T 1 = T7 1 ∧ T 2 = T7 2 ∧ T 8 = T7 8 ∧ L' = su :: sx :: sy :: t :: L ∧ (jy ≤ 30 ∧ RowL Rc.cells 46 8 vy (w ++ List.replicate jy (rK 81)) sy ∧ View Rc.cells 46 (.slice A2 w.length k2) w vy t (w ++ List.replicate jy (rK 81)).length ((w ++ List.replicate jy (rK 81)).flatMap Rc.cells))) (ss.1) (ss.2.1) (ss.2.2.1) (ss.2.2.2)) (fun (ss : (Nat) × (Value) × (Slot) × (Slot)) => (fun (jy : Nat) (vy : Value) (sy : Slot) (t : Slot) => 30 - jy) (ss.1) (ss.2.1) (ss.2.2.1) (ss.2.2.2)) (0, .slice A2 w.length k2, sb, none) ?_ ?_
          · try dsimp only
            refine ⟨?_, ?_, ?_, ?_, ?_, ?_, ?_⟩
            · first | exact h7_10 | (rw [h7_10]; rfl) | (rw [h7_10]; simp; done)
            · first | exact h7_11 | (rw [h7_11]; rfl) | (rw [h7_11]; simp; done)
            · rfl
            · rfl
            · rfl
            · rfl
            · refine ⟨Nat.zero_le _, ?_, ?_⟩
              · rw [List.replicate_zero, List.append_nil]; exact hrb
              · rw [List.replicate_zero, List.append_nil]; exact View.self hrb
          · intro ss T8 L8 hI K26 hK26
            obtain ⟨jy, vy, sy, t⟩ := ss
            try dsimp only at hI hK26
            simp only [h7_1, h7_2, h7_8] at hI hK26
            obtain ⟨h8_10, h8_11, h8_1, h8_2, h8_8, hL8, ⟨hj2, hry, hV⟩⟩ := hI
            replace hL8 := hL8.symm
            subst hL8
            clear h7_1 h7_2 h7_8 h7_10 h7_11 T7
            refine SX.seq_k fun K27 hK27 => ?_
            refine SX.seq_k fun K28 hK28 => ?_
            refine SX.region_d [some 47, some 48] rfl (fun ops hops => ?_)
            unfold Dsts at hops
            simp (maxSteps:=1000000)(dsimp:=false)(disch:=omega) only [go_sem, Φa, hP, h8_10, h8_11, h8_1, h8_2, h8_8, hops]
            repeat' ((first | refine And.intro (by omega) ?_ | fail); try (with_reducible refine stI ?_); try simp (maxSteps:=1000000)(dsimp:=false)(disch:=omega) only [go_sem, Φa, hP, h8_10, h8_11, h8_1, h8_2, h8_8, hops])
            refine hK28 _ _ ?_
            try clear hK28 K28
            refine SX.cond_k fun X29 Y29 hX29 hY29 => ?_
            simp (maxSteps:=1000000)(dsimp:=false)(disch:=omega) only [go_sem, Φa, hP, h8_10, h8_11, h8_1, h8_2, h8_8, condVC]
            refine ⟨fun hc48 => hX29 ?_, fun hc48 => hY29 ?_⟩
            · clear hX29 hY29 X29 Y29
              refine SX.skip ?_
              try simp only [andThen_normal, andThen_ret, andThen_exit, inBlk_normal, inBlk_ret, inBlk_exit, Nat.reduceEqDiff, if_true, if_false, ↓reduceIte]
              refine hK27 _ _ ?_
              try clear hK27 K27
              refine SX.seq_k fun K30 hK30 => ?_
              refine SX.block ?_
              refine SX.region_d [some 51, some 52, some 53, some 54, some 10] rfl (fun ops hops => ?_)
              unfold Dsts at hops
              simp (maxSteps:=1000000)(dsimp:=false)(disch:=omega) only [go_sem, Φa, hP, h8_10, h8_11, h8_1, h8_2, h8_8, hops]
              intro b2
              try with_reducible refine stI ?_
              try simp (maxSteps:=1000000)(dsimp:=false)(disch:=omega) only [go_sem, Φa, hP, h8_10, h8_11, h8_1, h8_2, h8_8, hops]
              refine YAppend.rowV1 (z := [.int .u8 0, .int .u16 0, .int .u8 0, .bool false, .bool false, .int .u8 0, .bool false, .int .u8 0]) (f := Rc.cells) (x := rK 81) (hP ▸ T.elS_23) (hP ▸ T.zr_46) rfl rfl rfl hry hV (by rw [List.length_append, List.length_replicate]; omega) (by decide) (fun vy2 sy2 t2 hry2 hV2 => ?_)
              try with_reducible refine stI ?_
              try simp (maxSteps:=1000000)(dsimp:=false)(disch:=omega) only [go_sem, Φa, hP, h8_10, h8_11, h8_1, h8_2, h8_8, hops]
              refine hK30 _ _ ?_
              try clear hK30 K30
              refine SX.region_d [some 49, some 50, some 11] rfl (fun ops hops => ?_)
              unfold Dsts at hops
              simp (maxSteps:=1000000)(dsimp:=false)(disch:=omega) only [go_sem, Φa, hP, h8_10, h8_11, h8_1, h8_2, h8_8, hops]
              repeat' ((first | refine And.intro (by omega) ?_ | fail); try (with_reducible refine stI ?_); try simp (maxSteps:=1000000)(dsimp:=false)(disch:=omega) only [go_sem, Φa, hP, h8_10, h8_11, h8_1, h8_2, h8_8, hops])
              refine hK26 (jy + 1, vy2, sy2, t2) _ (su :: sx :: sy2 :: t2 :: L) _ (by first | exact Less.refl _ | exact Less.drop _ _ | exact Less.drops (Less.drop _ _) | exact Less.drops (Less.drops (Less.drop _ _)) | exact Less.drops (Less.drops (Less.drops (Less.drop _ _))) | exact Less.drops (Less.drops (Less.drops (Less.drops (Less.drop _ _))))) ?_ ?_
              · try dsimp only
                refine ⟨?_, ?_, ?_, ?_, ?_, ?_, ?_⟩
                · simp (maxSteps:=1000000)(dsimp:=false)(disch:=omega) only [go_sem, Φa, hP, h8_10, h8_11, h8_1, h8_2, h8_8]
                  first | done | rfl | skip
                · simp (maxSteps:=1000000)(dsimp:=false)(disch:=omega) only [go_sem, Φa, hP, h8_10, h8_11, h8_1, h8_2, h8_8]
                  first | done | rfl | skip
                · simp (maxSteps:=1000000)(dsimp:=false)(disch:=omega) only [go_sem, Φa, hP, h8_10, h8_11, h8_1, h8_2, h8_8]
                · simp (maxSteps:=1000000)(dsimp:=false)(disch:=omega) only [go_sem, Φa, hP, h8_10, h8_11, h8_1, h8_2, h8_8]
                · simp (maxSteps:=1000000)(dsimp:=false)(disch:=omega) only [go_sem, Φa, hP, h8_10, h8_11, h8_1, h8_2, h8_8]
                · rfl
                · refine ⟨by omega, ?_, ?_⟩
                  · rw [show List.replicate (jy + 1) (rK 81) = List.replicate jy (rK 81) ++ [(rK 81)] from List.replicate_succ']; rw [← List.append_assoc]; exact hry2
                  · rw [show List.replicate (jy + 1) (rK 81) = List.replicate jy (rK 81) ++ [(rK 81)] from List.replicate_succ']; rw [← List.append_assoc]; exact hV2
              · (try dsimp only); omega
            · clear hX29 hY29 X29 Y29
              refine SX.exit ?_
              try simp only [andThen_normal, andThen_ret, andThen_exit, inBlk_normal, inBlk_ret, inBlk_exit, Nat.reduceEqDiff, if_true, if_false, ↓reduceIte]
              refine hK24 _ _ ?_
              try clear hK24 K24
              refine SX.seq_k fun K31 hK31 => ?_
              refine SX.seq_k fun K32 hK32 => ?_
              refine SX.region_d [some 55, some 56, some 12] rfl (fun ops hops => ?_)
              unfold Dsts at hops
              simp (maxSteps:=1000000)(dsimp:=false)(disch:=omega) only [go_sem, Φa, hP, h8_10, h8_11, h8_1, h8_2, h8_8, hops]
              repeat' ((first | refine And.intro (by omega) ?_ | fail); try (with_reducible refine stI ?_); try simp (maxSteps:=1000000)(dsimp:=false)(disch:=omega) only [go_sem, Φa, hP, h8_10, h8_11, h8_1, h8_2, h8_8, hops])
              refine hK32 _ _ ?_
              try clear hK32 K32
              refine SX.block ?_
              obtain rfl : jx = 30 := by omega
              obtain rfl : jy = 30 := by omega
              obtain ⟨B1, m1, rfl, -, -⟩ := Row.form hrx
              obtain ⟨B2_, m2, rfl, -, -⟩ := Row.form hry
              have hlx : (l1 ++ List.replicate 30 (rK 80)).length = w.length + 30 := by rw [List.length_append, List.length_replicate, hl1]
              have hly : (w ++ List.replicate 30 (rK 81)).length = w.length + 30 := by rw [List.length_append, List.length_replicate]
              refine SX.live [1, 2, 8, 10, 12] (fun T9 hT9 => ?_)
              simp only [forall_mem_cons', forall_mem_nil', go_sem, Φa, hP, h8_10, h8_11, h8_1, h8_2, h8_8] at hT9
              obtain ⟨h9_1, h9_2, h9_8, h9_10, h9_12⟩ := hT9
              clear h8_10 h8_11 h8_1 h8_2 h8_8 T8
              refine SX.loop_k (fun (ss : (Nat)) T L' => (fun (i : Nat) => T 12 = .int .i64 (i : Int) ∧ T 1 = T9 1 ∧ T 2 = T9 2 ∧ T 8 = T9 8 ∧ T 10 = T9 10 ∧ L' = su :: sx :: sy :: t :: L ∧ (w.length ≤ i ∧ i ≤ w.length + 30)) (ss)) (fun (ss : (Nat)) => (fun (i : Nat) => w.length + 30 - i) (ss)) w.length ?_ ?_
              · try dsimp only
                refine ⟨?_, ?_, ?_, ?_, ?_, ?_, ?_⟩
                · first | exact h9_12 | (rw [h9_12]; rfl) | (rw [h9_12]; simp; done)
                · rfl
                · rfl
                · rfl
                · rfl
                · rfl
                · exact ⟨Nat.le_refl _, by omega⟩
              · intro i T10 L10 hI K33 hK33
                try dsimp only at hI hK33
                simp only [h9_1, h9_2, h9_8, h9_10] at hI hK33
                obtain ⟨h10_12, h10_1, h10_2, h10_8, h10_10, hL10, ⟨hi1, hi2⟩⟩ := hI
                replace hL10 := hL10.symm
                subst hL10
                clear h9_1 h9_2 h9_8 h9_10 h9_12 T9
                refine SX.seq_k fun K34 hK34 => ?_
                refine SX.seq_k fun K35 hK35 => ?_
                refine SX.region_d [some 57, some 58, some 59, some 60] rfl (fun ops hops => ?_)
                unfold Dsts at hops
                simp (maxSteps:=1000000)(dsimp:=false)(disch:=omega) only [go_sem, Φa, hP, h10_12, h10_1, h10_2, h10_8, h10_10, hops, hlx]
                repeat' ((first | refine And.intro (by omega) ?_ | fail); try (with_reducible refine stI ?_); try simp (maxSteps:=1000000)(dsimp:=false)(disch:=omega) only [go_sem, Φa, hP, h10_12, h10_1, h10_2, h10_8, h10_10, hops, hlx])
                refine hK35 _ _ ?_
                try clear hK35 K35
                refine SX.cond_k fun X36 Y36 hX36 hY36 => ?_
                simp (maxSteps:=1000000)(dsimp:=false)(disch:=omega) only [go_sem, Φa, hP, h10_12, h10_1, h10_2, h10_8, h10_10, condVC]
                refine ⟨fun hc60 => hX36 ?_, fun hc60 => hY36 ?_⟩
                · clear hX36 hY36 X36 Y36
                  refine SX.skip ?_
                  try simp only [andThen_normal, andThen_ret, andThen_exit, inBlk_normal, inBlk_ret, inBlk_exit, Nat.reduceEqDiff, if_true, if_false, ↓reduceIte]
                  refine hK34 _ _ ?_
                  try clear hK34 K34
                  refine SX.seq_k fun K37 hK37 => ?_
                  refine SX.block ?_
                  refine SX.seq_k fun K38 hK38 => ?_
                  refine SX.region_xd [some 63, some 64, some 65, some 66, some 67, some 68, some 69, some 70, some 71, some 72, some 73, some 74, some 75, some 76] rfl (fun ops hops => ?_)
                  unfold Dsts at hops
                  refine RX.live [1, 2, 8, 10, 12] (fun T11 hT11 => ?_)
                  simp only [forall_mem_cons', forall_mem_nil', go_sem, Φa, hP, h10_12, h10_1, h10_2, h10_8, h10_10] at hT11
                  obtain ⟨h11_1, h11_2, h11_8, h11_10, h11_12⟩ := hT11
                  clear h10_12 h10_1 h10_2 h10_8 h10_10 T10
                  obtain ⟨_, _, e_, _, hAx⟩ := RowL.sl (Γ := Γ) (L := su :: sx :: sy :: t :: L) (i := 1) Rc.len hrx rfl
                  cases e_
                  obtain ⟨ax, hax, hRx⟩ := hAx i (rK 80) (by rw [List.getElem?_append_right (by omega), List.getElem?_replicate, if_pos (by omega)])
                  have hcx := hRx 0 (.int .u8 80) rfl
                  rw [add_addS] at hcx
                  simp only [Nat.mul_one, Nat.add_zero] at hcx
                  subst hax
                  obtain ⟨_, _, e_, _, hAy⟩ := RowL.sl (Γ := Γ) (L := su :: sx :: sy :: t :: L) (i := 2) Rc.len hry rfl
                  cases e_
                  obtain ⟨ay, hay, hRy⟩ := hAy i (rK 81) (by rw [List.getElem?_append_right (by omega), List.getElem?_replicate, if_pos (by omega)])
                  have hcy := hRy 0 (.int .u8 81) rfl
                  rw [add_addS] at hcy
                  simp only [Nat.mul_one, Nat.add_zero] at hcy
                  subst hay
                  refine RX.join 14 (fun (ss : Unit) T L' => T 76 = .bool (false) ∧ T 1 = T11 1 ∧ T 2 = T11 2 ∧ T 8 = T11 8 ∧ T 10 = T11 10 ∧ T 12 = T11 12 ∧ L' = su :: sx :: sy :: t :: L ∧ (True)) (fun K39 hK39 => ?_) ?_
                  · simp only [h11_1, h11_2, h11_8, h11_10, h11_12] at hK39
                    simp (maxSteps:=1000000)(dsimp:=false)(disch:=omega) only [go_sem, Φa, hP, h11_1, h11_2, h11_8, h11_10, h11_12, hops, hlx, hly]
                    repeat' (first | refine iteB (fun hg => ?_) (fun hg => ?_) | refine iteI (fun hg => ?_) (fun hg => ?_) | ((first | refine ⟨_, hcx, ?_⟩ | refine ⟨_, hcy, ?_⟩ | refine And.intro (by omega) ?_ | refine ⟨_, Cell.at 0 rfl rfl, ?_⟩ | refine ⟨_, Cell.at 1 rfl rfl, ?_⟩ | refine ⟨_, Cell.at 2 rfl rfl, ?_⟩ | refine ⟨_, Cell.at 3 rfl rfl, ?_⟩ | fail); try (with_reducible refine stI ?_); try simp (maxSteps:=1000000)(dsimp:=false)(disch:=omega) only [go_sem, Φa, hP, h11_1, h11_2, h11_8, h11_10, h11_12, hops, hlx, hly]) | fail)
                    all_goals
                      refine hK39 () _ (su :: sx :: sy :: t :: L) _ (by first | exact Less.refl _ | exact Less.drop _ _ | exact Less.drops (Less.drop _ _) | exact Less.drops (Less.drops (Less.drop _ _)) | exact Less.drops (Less.drops (Less.drops (Less.drop _ _))) | exact Less.drops (Less.drops (Less.drops (Less.drops (Less.drop _ _))))) ?_
                      try dsimp only
                      refine ⟨?_, ?_, ?_, ?_, ?_, ?_, ?_, ?_⟩
                      · simp (maxSteps:=1000000)(dsimp:=false)(disch:=omega) only [go_sem, Φa, hP, h11_1, h11_2, h11_8, h11_10, h11_12]
                        first | done | rfl | simp
                      · simp (maxSteps:=1000000)(dsimp:=false)(disch:=omega) only [go_sem, Φa, hP, h11_1, h11_2, h11_8, h11_10, h11_12]
                      · simp (maxSteps:=1000000)(dsimp:=false)(disch:=omega) only [go_sem, Φa, hP, h11_1, h11_2, h11_8, h11_10, h11_12]
                      · simp (maxSteps:=1000000)(dsimp:=false)(disch:=omega) only [go_sem, Φa, hP, h11_1, h11_2, h11_8, h11_10, h11_12]
                      · simp (maxSteps:=1000000)(dsimp:=false)(disch:=omega) only [go_sem, Φa, hP, h11_1, h11_2, h11_8, h11_10, h11_12]
                      · simp (maxSteps:=1000000)(dsimp:=false)(disch:=omega) only [go_sem, Φa, hP, h11_1, h11_2, h11_8, h11_10, h11_12]
                      · rfl
                      · trivial
                  · intro ss T12 L12 hI
                    simp only [h11_1, h11_2, h11_8, h11_10, h11_12] at hI 
                    obtain ⟨h12_76, h12_1, h12_2, h12_8, h12_10, h12_12, hL12, hinv⟩ := hI
                    replace hL12 := hL12.symm
                    subst hL12
                    clear h11_1 h11_2 h11_8 h11_10 h11_12 T11
                    refine RX.done ?_
                    simp (maxSteps:=1000000)(dsimp:=false)(disch:=omega) only [go_sem, Φa, hP, h12_76, h12_1, h12_2, h12_8, h12_10, h12_12, hops]
                    refine hK38 _ _ ?_
                    try clear hK38 K38
                    refine SX.cond_k fun X40 Y40 hX40 hY40 => ?_
                    simp (maxSteps:=1000000)(dsimp:=false)(disch:=omega) only [go_sem, Φa, hP, h12_76, h12_1, h12_2, h12_8, h12_10, h12_12, condVC]
                    refine hY40 ?_
                    clear hX40 hY40 X40 Y40
                    refine SX.skip ?_
                    try simp only [andThen_normal, andThen_ret, andThen_exit, inBlk_normal, inBlk_ret, inBlk_exit, Nat.reduceEqDiff, if_true, if_false, ↓reduceIte]
                    refine hK37 _ _ ?_
                    try clear hK37 K37
                    refine SX.region_d [some 61, some 62, some 12] rfl (fun ops hops => ?_)
                    unfold Dsts at hops
                    simp (maxSteps:=1000000)(dsimp:=false)(disch:=omega) only [go_sem, Φa, hP, h12_76, h12_1, h12_2, h12_8, h12_10, h12_12, hops]
                    repeat' ((first | refine And.intro (by omega) ?_ | fail); try (with_reducible refine stI ?_); try simp (maxSteps:=1000000)(dsimp:=false)(disch:=omega) only [go_sem, Φa, hP, h12_76, h12_1, h12_2, h12_8, h12_10, h12_12, hops])
                    refine hK33 (i + 1) _ (su :: sx :: sy :: t :: L) _ (by first | exact Less.refl _ | exact Less.drop _ _ | exact Less.drops (Less.drop _ _) | exact Less.drops (Less.drops (Less.drop _ _)) | exact Less.drops (Less.drops (Less.drops (Less.drop _ _))) | exact Less.drops (Less.drops (Less.drops (Less.drops (Less.drop _ _))))) ?_ ?_
                    · try dsimp only
                      refine ⟨?_, ?_, ?_, ?_, ?_, ?_, ?_⟩
                      · simp (maxSteps:=1000000)(dsimp:=false)(disch:=omega) only [go_sem, Φa, hP, h12_76, h12_1, h12_2, h12_8, h12_10, h12_12]
                        first | done | rfl | skip
                      · simp (maxSteps:=1000000)(dsimp:=false)(disch:=omega) only [go_sem, Φa, hP, h12_76, h12_1, h12_2, h12_8, h12_10, h12_12]
                      · simp (maxSteps:=1000000)(dsimp:=false)(disch:=omega) only [go_sem, Φa, hP, h12_76, h12_1, h12_2, h12_8, h12_10, h12_12]
                      · simp (maxSteps:=1000000)(dsimp:=false)(disch:=omega) only [go_sem, Φa, hP, h12_76, h12_1, h12_2, h12_8, h12_10, h12_12]
                      · simp (maxSteps:=1000000)(dsimp:=false)(disch:=omega) only [go_sem, Φa, hP, h12_76, h12_1, h12_2, h12_8, h12_10, h12_12]
                      · rfl
                      · exact ⟨by omega, by omega⟩
                    · (try dsimp only); omega
                · clear hX36 hY36 X36 Y36
                  refine SX.exit ?_
                  try simp only [andThen_normal, andThen_ret, andThen_exit, inBlk_normal, inBlk_ret, inBlk_exit, Nat.reduceEqDiff, if_true, if_false, ↓reduceIte]
                  refine hK31 _ _ ?_
                  try clear hK31 K31
                  refine SX.seq_k fun K41 hK41 => ?_
                  refine SX.region_d [some 77, some 78, some 79, some 6] rfl (fun ops hops => ?_)
                  unfold Dsts at hops
                  simp (maxSteps:=1000000)(dsimp:=false)(disch:=omega) only [go_sem, Φa, hP, h10_12, h10_1, h10_2, h10_8, h10_10, hops]
                  (refine SCall.mono (same_spec (a := w) (b := w) hP (View.sl (P := [su, sx]) (s := sy) (t := t) (L0 := L) Rc.len hV hry ⟨_, _, rfl, hk2⟩) (RowL.sl (L := su :: sx :: sy :: t :: L) (i := 0) Rc.len hru rfl) how how (by omega) (by omega)) ?_; rintro v_ L_ ⟨hv_, hL_⟩; rw [hv_, hL_, decide_eq_true rfl]; clear hv_ hL_ v_ L_)
                  try with_reducible refine stI ?_
                  try simp (maxSteps:=1000000)(dsimp:=false)(disch:=omega) only [go_sem, Φa, hP, h10_12, h10_1, h10_2, h10_8, h10_10, hops]
                  refine hK41 _ _ ?_
                  try clear hK41 K41
                  refine SX.ret ?_
                  simp only [andThen_normal, andThen_ret, andThen_exit, inBlk_normal, inBlk_ret, inBlk_exit, Nat.reduceEqDiff, if_true, if_false, ↓reduceIte, retQ_ret]
                  try simp only [res0, res1, res2, res3, stK_e, go_sem, Φa, hP, h10_12, h10_1, h10_2, h10_8, h10_10]
                  exact ⟨_, L, Less.tail [_, _, _, _] L, rfl, rfl, rfl⟩

end Go.Proofs.YtcenlgofldnfcaaDoor
set_option linter.unusedVariables false
set_option linter.unusedSimpArgs false
namespace Go.Proofs.YtcenlgofldnfcaaDoor
open Go.RowKit Go.SX Go.Proofs

end Go.Proofs.YtcenlgofldnfcaaDoor
set_option linter.unusedVariables false
set_option linter.unusedSimpArgs false
namespace Go.Proofs.YtcenlgofldnfcaaDoor
open Go.RowKit Go.SX Go.Proofs
/-! Texts read back, in plain Lean. -/
def hexV (b : Nat) : Option Nat := if 48 ≤ b ∧ b ≤ 57 then some (b - 48) else if 97 ≤ b ∧ b ≤ 102 then some (b - 97 + 10) else none
def numF : List UInt8 → Nat → Option Nat
  | [], n => some n
  | b :: r, n => match hexV b.toNat with
    | some d => numF r (n * 16 + d)
    | none => none
def numS (s : ByteArray) : Option Nat := if 1 ≤ s.size ∧ s.size ≤ 8 then numF s.data.toList 0 else none
def numR (s : ByteArray) : Value := .tuple #[.int .i64 (((numS s).getD 0 : Nat) : Int), .int .i64 (if (numS s).isSome then 0 else 1)]
theorem index_sep (c : UInt8) : ∀ (a b : List UInt8), c ∉ a → Lib.index (a ++ c :: b) [c] = a.length := fun a b h => by
  refine Lib.index_first (by simp) ?_ fun j hj => ?_
  · simp [Lib.occAt]
  · cases he : Lib.occAt (a ++ c :: b) [c] j
    · rfl
    · have := Lib.occAt_head rfl he
      rw [List.getElem?_append_left hj] at this
      exact (h (List.mem_of_getElem? this)).elim
theorem index_no (c : UInt8) : ∀ (a : List UInt8), c ∉ a → Lib.index a [c] = -1 := fun a h => by
  refine Lib.index_none fun j _ => ?_
  cases he : Lib.occAt a [c] j
  · rfl
  · exact (h (List.mem_of_getElem? (Lib.occAt_head rfl he))).elim
def words (s : ByteArray) : List ByteArray := Lib.splitB sp 0 (Lib.countB s sp) s
theorem words_cons (a b : ByteArray) (h : (32 : UInt8) ∉ a.data.toList) : words (a ++ (sp ++ b)) = a :: words b := by
  have hd : (a ++ (sp ++ b)).data.toList = a.data.toList ++ (32 : UInt8) :: b.data.toList := by rw [ba_app, ba_app]; rfl
  have hi : Lib.indexB (a ++ (sp ++ b)) sp = a.data.toList.length := by
    unfold Lib.indexB
    rw [hd]
    exact index_sep 32 _ _ h
  have e1 : (a ++ (sp ++ b)).extract 0 (a.data.toList.length + 0) = a := ba_ext (by rw [Lib.extract_from_zero, hd]; simp)
  have e2 : (a ++ (sp ++ b)).extract (a.data.toList.length + sp.size) (a ++ (sp ++ b)).size = b := ba_ext (by rw [Lib.extract_to_end, hd]; show List.drop (a.data.toList.length + 1) _ = _; rw [List.drop_append, List.drop_eq_nil_of_le (Nat.le_succ _), Nat.add_sub_cancel_left]; rfl)
  unfold words
  rw [Lib.countB_hit _ _ _ (by decide) hi, e2, Nat.add_comm, Lib.splitB_hit _ _ _ _ _ hi, e1, e2]
theorem words_one (a : ByteArray) (h : (32 : UInt8) ∉ a.data.toList) : words a = [a] := by
  unfold words
  exact Lib.splitB_miss _ _ _ _ (index_no 32 _ h)
theorem dg_not (k : Nat) : ∀ b : UInt8, b ∈ [UInt8.ofNat (dg k).toNat] → b ≠ 32 := by
  have key : ∀ j, j < 16 → UInt8.ofNat (dg j).toNat ≠ 32 := by decide
  intro b hb
  rw [List.mem_singleton.1 hb]
  have h := key (k % 16) (Nat.mod_lt _ (by decide))
  unfold dg at h ⊢
  rwa [Nat.mod_mod] at h
theorem hexS_data (n k : Nat) : (hexS n k).data.toList = (hexF n k).map fun x => UInt8.ofNat x.toNat := by simp [hexS, txt]
theorem hexS_not : ∀ (k n : Nat), (32 : UInt8) ∉ (hexS n k).data.toList := fun k => by
  induction k with
  | zero => intro n h; rw [hexS_data] at h; simp [hexF] at h
  | succ k ih =>
    intro n h
    rw [hexS_data, hexF, List.map_append, List.mem_append] at h
    rcases h with h | h
    · exact ih (n / 16) (by rw [hexS_data]; exact h)
    · exact dg_not n _ h rfl
theorem numF_app : ∀ (l r : List UInt8) (n : Nat), numF (l ++ r) n = (numF l n).bind (numF r)
  | [], r, n => rfl
  | b :: l, r, n => by
    rw [List.cons_append, numF, numF]
    split
    · exact numF_app l r _
    · rfl
theorem hexV_dg (v : Nat) : hexV (UInt8.ofNat (dg v).toNat).toNat = some (v % 16) := by
  have key : ∀ j, j < 16 → hexV (UInt8.ofNat (dg j).toNat).toNat = some (j % 16) := by decide
  have h := key (v % 16) (Nat.mod_lt _ (by decide))
  unfold dg at h ⊢
  simpa [Nat.mod_mod] using h
theorem numF_hex : ∀ (k v n : Nat), v < 16 ^ k → numF ((hexF v k).map fun x => UInt8.ofNat x.toNat) n = some (n * 16 ^ k + v)
  | 0, v, n, h => by
    have : v = 0 := by simpa using h
    subst this
    simp [hexF, numF]
  | k + 1, v, n, h => by
    rw [hexF, List.map_append, numF_app, numF_hex k (v / 16) n (by rw [Nat.pow_succ] at h; omega)]
    simp only [Option.bind_some, List.map_cons, List.map_nil, numF, hexV_dg]
    congr 1
    rw [Nat.pow_succ, Nat.add_mul, Nat.mul_assoc]
    omega
theorem numS_hex {k v : Nat} (h1 : 1 ≤ k) (h4 : k ≤ 4) (hv : v < 16 ^ k) : numS (hexS v k) = some v := by
  unfold numS
  rw [if_pos (by rw [hexS_size]; omega), hexS_data, numF_hex k v 0 hv, Nat.zero_mul, Nat.zero_add]
def cL (s : ByteArray) : ByteArray := ⟨(Lib.cut s.data.toList [10]).1.toArray⟩
def cR (s : ByteArray) : ByteArray := ⟨(Lib.cut s.data.toList [10]).2.1.toArray⟩
theorem cL_size (s : ByteArray) : (cL s).size ≤ s.size := by
  show (Lib.cut s.data.toList [10]).1.length ≤ s.data.toList.length
  unfold Lib.cut
  split
  · exact List.length_take_le' ..
  · exact Nat.le_refl _
theorem cR_size (s : ByteArray) : (cR s).size ≤ s.size := by
  show (Lib.cut s.data.toList [10]).2.1.length ≤ s.data.toList.length
  unfold Lib.cut
  split
  · rw [List.length_drop]; omega
  · exact Nat.zero_le _
def restAt (s : ByteArray) : Nat → ByteArray
  | 0 => s
  | i + 1 => cR (restAt s i)
theorem restAt_size (s : ByteArray) : ∀ i, (restAt s i).size ≤ s.size
  | 0 => Nat.le_refl _
  | i + 1 => Nat.le_trans (cR_size _) (restAt_size s i)
theorem index_nl {c : UInt8} : ∀ {x : List UInt8} (y : List UInt8), c ∉ x → Lib.index (x ++ c :: y) [c] = x.length
  | [], y, _ => by
    show Lib.index (c :: y) [c] = _
    rw [Lib.index, if_pos (by simp [List.isPrefixOf])]
    rfl
  | a :: x, y, h => by
    have ih := index_nl (x := x) y fun hh => h (List.mem_cons_of_mem _ hh)
    have ha : c ≠ a := fun hh => h (hh ▸ List.mem_cons_self ..)
    show Lib.index (a :: (x ++ c :: y)) [c] = _
    rw [Lib.index, if_neg (by simp [List.isPrefixOf, ha]), ih, if_neg (by simp), List.length_cons]
    omega
theorem cut_nl {c : UInt8} {x : List UInt8} (y : List UInt8) (h : c ∉ x) : Lib.cut (x ++ c :: y) [c] = (x, y, true) := by
  unfold Lib.cut
  rw [index_nl y h, if_pos (Int.natCast_nonneg _), Int.toNat_natCast, List.take_left']
  · rw [List.length_singleton, List.drop_append, Nat.add_sub_cancel_left, List.drop_of_length_le (by omega)]
    rfl
  · rfl
abbrev LB := List UInt8
def flatC (c : UInt8) (o : List LB) : LB := o.flatMap fun l => l ++ [c]
theorem flatN_cons {c : UInt8} (x : LB) (o : List LB) (r : LB) : flatC c (x :: o) ++ r = x ++ c :: (flatC c o ++ r) := by
  unfold flatC
  simp
theorem flatN_app {c : UInt8} (o : List LB) (x : LB) : flatC c (o ++ [x]) = flatC c o ++ x ++ [c] := by
  unfold flatC
  simp
theorem flatN_inj {c : UInt8} : ∀ {o o' : List LB} {r r' : LB}, (∀ l ∈ o, c ∉ l) → (∀ l ∈ o', c ∉ l) → c ∉ r → c ∉ r' → flatC c o ++ r = flatC c o' ++ r' → o = o' ∧ r = r'
  | [], [], r, r', _, _, _, _, h => ⟨rfl, h⟩
  | [], x :: o', r, r', _, _, hr, _, h => by
    rw [flatN_cons] at h
    exact absurd (show c ∈ r by rw [show r = flatC c [] ++ r from rfl, h]; simp) hr
  | x :: o, [], r, r', _, _, _, hr', h => by
    rw [flatN_cons] at h
    exact absurd (show c ∈ r' by rw [show r' = flatC c [] ++ r' from rfl, ← h]; simp) hr'
  | x :: o, x' :: o', r, r', ho, ho', hr, hr', h => by
    rw [flatN_cons, flatN_cons] at h
    have h1 := cut_nl (c := c) (flatC c o ++ r) (ho x (List.mem_cons_self ..))
    rw [h, cut_nl (c := c) (flatC c o' ++ r') (ho' x' (List.mem_cons_self ..))] at h1
    simp only [Prod.mk.injEq, and_true] at h1
    obtain ⟨e1, e2⟩ := h1
    obtain ⟨e3, e4⟩ := flatN_inj (fun l hl => ho l (List.mem_cons_of_mem _ hl)) (fun l hl => ho' l (List.mem_cons_of_mem _ hl)) hr hr' e2.symm
    exact ⟨by rw [e1, e3], e4⟩
def lnAt (c : UInt8) (s : ByteArray) : Nat → List ByteArray × Nat
  | 0 => ([], 0)
  | i + 1 => if (nums8 s).getD i 0 = (c.toNat : Int) then ((lnAt c s i).1 ++ [s.extract (lnAt c s i).2 i], i + 1) else lnAt c s i
def linesR (c : UInt8) (s : ByteArray) : List ByteArray := (lnAt c s s.size).1
def restR (c : UInt8) (s : ByteArray) : ByteArray := s.extract (lnAt c s s.size).2 s.size
theorem ext_toList (s : ByteArray) (a b : Nat) : (s.extract a b).data.toList = (s.data.toList.take b).drop a := by
  rw [Lib.extract_data, List.drop_take]
theorem nums8_getD {s : ByteArray} {i : Nat} (h : i < s.size) : ∃ b : UInt8, s.data.toList[i]? = some b ∧ (nums8 s).getD i 0 = (b.toNat : Int) := by
  obtain ⟨b, h1, h2⟩ := index_nums8 h
  exact ⟨b, h1, by rw [List.getD_eq_getElem?_getD, h2]; rfl⟩
theorem u8_ten {c b : UInt8} : ((b.toNat : Nat) : Int) = (c.toNat : Int) ↔ b = c := by
  constructor
  · intro h
    have h1 : b.toNat = c.toNat := by omega
    exact UInt8.toNat_inj.1 h1
  · rintro rfl; rfl
theorem lnAt_inv (c : UInt8) (s : ByteArray) : ∀ i, i ≤ s.size → (lnAt c s i).2 ≤ i ∧ (lnAt c s i).1.length ≤ i ∧ flatC c ((lnAt c s i).1.map fun l => l.data.toList) ++ (s.data.toList.take i).drop (lnAt c s i).2 = s.data.toList.take i ∧ (∀ l ∈ (lnAt c s i).1, c ∉ l.data.toList) ∧ c ∉ (s.data.toList.take i).drop (lnAt c s i).2
  | 0, _ => ⟨Nat.le_refl _, Nat.le_refl _, by simp [lnAt, flatC], fun l hl => by simp [lnAt] at hl, by simp⟩
  | i + 1, h => by
    obtain ⟨h1, hl, h2, h3, h4⟩ := lnAt_inv c s i (by omega)
    obtain ⟨b, hb1, hb2⟩ := nums8_getD (s := s) (i := i) (by omega)
    have hlen : (s.data.toList.take i).length = i := by
      have : s.data.toList.length = s.size := rfl
      rw [List.length_take]; omega
    have ht : s.data.toList.take (i + 1) = s.data.toList.take i ++ [b] := by rw [List.take_add_one, hb1]; rfl
    rw [lnAt]
    by_cases h10 : (nums8 s).getD i 0 = (c.toNat : Int)
    · rw [if_pos h10]
      rw [hb2] at h10
      have hbb : b = c := u8_ten.1 h10
      refine ⟨Nat.le_refl _, by rw [List.length_append, List.length_singleton]; omega, ?_, ?_, ?_⟩
      · dsimp only
        rw [List.map_append, List.map_cons, List.map_nil, flatN_app, ext_toList, h2, ht, hbb, List.drop_of_length_le (by rw [List.length_append, hlen, List.length_singleton]; omega), List.append_nil]
      · intro l hl
        rcases List.mem_append.1 hl with hl | hl
        · exact h3 l hl
        · rw [List.mem_singleton.1 hl, ext_toList]; exact h4
      · dsimp only
        rw [ht, List.drop_of_length_le (by rw [List.length_append, hlen, List.length_singleton]; omega)]
        simp
    · rw [if_neg h10]
      rw [hb2, u8_ten] at h10
      have hd : (s.data.toList.take i ++ [b]).drop (lnAt c s i).2 = (s.data.toList.take i).drop (lnAt c s i).2 ++ [b] := List.drop_append_of_le_length (by rw [hlen]; exact h1)
      refine ⟨by omega, by omega, ?_, h3, ?_⟩
      · rw [ht, hd, ← List.append_assoc, h2]
      · rw [ht, hd]
        intro hm
        rcases List.mem_append.1 hm with hm | hm
        · exact h4 hm
        · exact h10 (List.mem_singleton.1 hm).symm
theorem linesR_inv (c : UInt8) (s : ByteArray) : flatC c ((linesR c s).map fun l => l.data.toList) ++ (restR c s).data.toList = s.data.toList ∧ (∀ l ∈ linesR c s, c ∉ l.data.toList) ∧ c ∉ (restR c s).data.toList := by
  obtain ⟨_, _, h2, h3, h4⟩ := lnAt_inv c s s.size (Nat.le_refl _)
  have hs : s.data.toList.take s.size = s.data.toList := List.take_of_length_le (Nat.le_refl _)
  have hr : (restR c s).data.toList = (s.data.toList.take s.size).drop (lnAt c s s.size).2 := ext_toList _ _ _
  rw [hr]
  rw [hs] at h2 h4 ⊢
  exact ⟨h2, h3, h4⟩
end Go.Proofs.YtcenlgofldnfcaaDoor
set_option linter.unusedVariables false
set_option linter.unusedSimpArgs false
namespace Go.Proofs.YtcenlgofldnfcaaDoor
open Go.RowKit Go.SX Go.Proofs
/-! A line's words, the same for the program and the document. -/
theorem map_list_inj : ∀ {l m : List ByteArray}, l.map (fun x => x.data.toList) = m.map (fun x => x.data.toList) → l = m
  | [], [], _ => rfl
  | [], b :: m, h => by cases h
  | a :: l, [], h => by cases h
  | a :: l, b :: m, h => by
    simp only [List.map_cons, List.cons.injEq] at h
    rw [ba_ext h.1, map_list_inj h.2]
def wordsR (s : ByteArray) : List ByteArray := linesR 32 s ++ [restR 32 s]
theorem wordsR_one (a : ByteArray) (h : (32 : UInt8) ∉ a.data.toList) : wordsR a = [a] := by
  obtain ⟨h1, h2, h3⟩ := linesR_inv 32 a
  obtain ⟨e1, e2⟩ := flatN_inj (c := 32) (o := (linesR 32 a).map fun l => l.data.toList) (o' := []) (r := (restR 32 a).data.toList) (r' := a.data.toList) (fun l hl => by obtain ⟨x, hx, rfl⟩ := List.mem_map.1 hl; exact h2 x hx) (fun l hl => by cases hl) h3 h h1
  unfold wordsR
  rw [List.map_eq_nil_iff.1 e1, ba_ext e2]
  rfl
theorem wordsR_cons (a b : ByteArray) (h : (32 : UInt8) ∉ a.data.toList) : wordsR (a ++ (sp ++ b)) = a :: wordsR b := by
  obtain ⟨h1, h2, h3⟩ := linesR_inv 32 (a ++ (sp ++ b))
  obtain ⟨k1, k2, k3⟩ := linesR_inv 32 b
  have hd : (a ++ (sp ++ b)).data.toList = a.data.toList ++ (32 : UInt8) :: b.data.toList := by rw [ba_app, ba_app]; rfl
  rw [hd, ← k1, ← flatN_cons] at h1
  obtain ⟨e1, e2⟩ := flatN_inj (c := 32) (o := (linesR 32 (a ++ (sp ++ b))).map fun l => l.data.toList) (o' := a.data.toList :: (linesR 32 b).map fun l => l.data.toList) (fun l hl => by obtain ⟨x, hx, rfl⟩ := List.mem_map.1 hl; exact h2 x hx) (fun l hl => by
    rcases List.mem_cons.1 hl with rfl | hl
    · exact h
    · obtain ⟨x, hx, rfl⟩ := List.mem_map.1 hl; exact k2 x hx) h3 k3 h1
  have e3 : linesR 32 (a ++ (sp ++ b)) = a :: linesR 32 b := map_list_inj e1
  unfold wordsR
  rw [e3, ba_ext e2]
  rfl
theorem join_one (a : ByteArray) : joinS [a] sp = a := ba_ext (by simp [joinS, Lib.join, Lib.joinTail])
theorem join_cons (a b : ByteArray) (l : List ByteArray) : joinS (a :: b :: l) sp = a ++ (sp ++ joinS (b :: l) sp) := ba_ext (by
  rw [ba_app, ba_app]
  simp [joinS, Lib.join, Lib.joinTail])
theorem words_joined {W : ByteArray → List ByteArray} (h1 : ∀ a : ByteArray, (32 : UInt8) ∉ a.data.toList → W a = [a]) (hc : ∀ a b : ByteArray, (32 : UInt8) ∉ a.data.toList → W (a ++ (sp ++ b)) = a :: W b) : ∀ (l : List ByteArray) (a : ByteArray), (∀ w ∈ a :: l, (32 : UInt8) ∉ w.data.toList) → W (joinS (a :: l) sp) = a :: l
  | [], a, h => by rw [join_one, h1 a (h a (List.mem_cons_self ..))]
  | b :: l, a, h => by rw [join_cons, hc a _ (h a (List.mem_cons_self ..)), words_joined h1 hc l b fun w hw => h w (List.mem_cons_of_mem _ hw)]
theorem word_not (x : Rc) : ∀ i, (32 : UInt8) ∉ (wordAt x i).data.toList := by
  have hw : ∀ (b : Bool) (s : ByteArray), (32 : UInt8) ∉ s.data.toList → (32 : UInt8) ∉ (whenS b s).data.toList := fun b s h => by
    unfold whenS
    split
    · exact h
    · simp
  have hp : ∀ (y : UInt8) (s : ByteArray), y ≠ 32 → (32 : UInt8) ∉ s.data.toList → (32 : UInt8) ∉ ((⟨#[y]⟩ : ByteArray) ++ s).data.toList := fun y s hy hs => by
    rw [ba_app, List.mem_append]
    rintro (h | h)
    · exact hy (List.mem_singleton.1 h).symm
    · exact hs h
  have hm : ∀ k, k < 4 → (32 : UInt8) ∉ (mdL.getD k ⟨#[]⟩).data.toList := by decide
  intro i
  match i with
  | 0 => exact hp 115 _ (by decide) (hexS_not 1 _)
  | 1 => exact hexS_not 4 _
  | 2 => exact hexS_not 2 _
  | 3 => exact hw _ _ (by decide)
  | 4 => exact hw _ _ (by decide)
  | 5 => exact hw _ _ (hp 110 _ (by decide) (hexS_not 1 _))
  | 6 => exact hw _ _ (by decide)
  | n + 7 => exact hm _ (Nat.mod_lt _ (by decide))
theorem accW_not (x : Rc) : ∀ w ∈ accW x 8, (32 : UInt8) ∉ w.data.toList := fun w hw => by
  unfold accW at hw
  obtain ⟨i, _, rfl⟩ := List.mem_map.1 (List.mem_filter.1 hw).1
  exact word_not x i
theorem line_words (x : Rc) : words (lineS x) = accW x 8 := by
  have h := accW_not x
  unfold lineS
  rw [accW_8] at h ⊢
  exact words_joined words_one words_cons _ _ h
theorem line_wordsR (x : Rc) : wordsR (lineS x) = accW x 8 := by
  have h := accW_not x
  unfold lineS
  rw [accW_8] at h ⊢
  exact words_joined wordsR_one wordsR_cons _ _ h
end Go.Proofs.YtcenlgofldnfcaaDoor
set_option linter.unusedVariables false
set_option linter.unusedSimpArgs false
namespace Go.Proofs.YtcenlgofldnfcaaDoor
open Go.RowKit Go.SX Go.Proofs
/-! A record out of a line: the program's way and the document's. -/
def digW (s : ByteArray) : Int := match numS s with | some n => (n : Int) | none => -1
def tailB (s : ByteArray) : ByteArray := s.extract 1 s.size
def preB (w p : ByteArray) : Bool := Lib.hasPrefix w.data.toList p.data.toList
abbrev eB : ByteArray := ⟨#[]⟩
def rd0 (ws : List ByteArray) : Rc := ⟨IntKind.u8.wrap (digW (tailB (ws.getD 0 eB))), IntKind.u16.wrap (digW (ws.getD 1 eB)), IntKind.u8.wrap (digW (ws.getD 2 eB)), false, false, 0, false, 0⟩
def swW (r : Rc) (w : ByteArray) : Rc := if w = ⟨#[114]⟩ then { r with rd := true } else if w = ⟨#[119]⟩ then { r with wr := true } else if w = ⟨#[113]⟩ then { r with q := true } else if preB w ⟨#[110]⟩ = true then { r with port := IntKind.u8.wrap (digW (tailB w)) } else r
def mdK (w : ByteArray) : Nat → Int → Int
  | 0, m => m
  | k + 1, m => if ¬ mdL.getD k eB = eB ∧ mdL.getD k eB = w then (k : Int) else mdK w k m
def stW (r : Rc) (w : ByteArray) : Rc := { swW r w with md := mdK w 4 r.md }
def rdP (s : ByteArray) : Rc := ((words s).drop 3).foldl stW (rd0 (words s))
def zRc : Rc := ⟨0, 0, 0, false, false, 0, false, 0⟩
def readP (s : ByteArray) : Rc × Bool := if 3 ≤ (words s).length ∧ preB ((words s).getD 0 eB) ⟨#[115]⟩ = true then (rdP s, mayB (rdP s) && decide (lineS (rdP s) = s)) else (zRc, false)
theorem stW_r (r : Rc) : stW r ⟨#[114]⟩ = { r with rd := true } := by cases r; rfl
theorem stW_w (r : Rc) : stW r ⟨#[119]⟩ = { r with wr := true } := by cases r; rfl
theorem stW_q (r : Rc) : stW r ⟨#[113]⟩ = { r with q := true } := by cases r; rfl
theorem stW_md (r : Rc) : ∀ k, k < 4 → k ≠ 0 → stW r (mdL.getD k eB) = { r with md := (k : Int) } := by
  intro k h h0
  match k, h, h0 with
  | 1, _, _ => cases r; rfl
  | 2, _, _ => cases r; rfl
  | 3, _, _ => cases r; rfl
theorem port_all : ∀ p : Fin 8, p.1 ≠ 0 → (⟨#[110]⟩ ++ hexS p.1 1 : ByteArray) ≠ ⟨#[114]⟩ ∧ (⟨#[110]⟩ ++ hexS p.1 1 : ByteArray) ≠ ⟨#[119]⟩ ∧ (⟨#[110]⟩ ++ hexS p.1 1 : ByteArray) ≠ ⟨#[113]⟩ ∧ preB (⟨#[110]⟩ ++ hexS p.1 1) ⟨#[110]⟩ = true ∧ numS (tailB (⟨#[110]⟩ ++ hexS p.1 1)) = some p.1 ∧ ∀ k : Fin 4, mdL.getD k.1 eB ≠ (⟨#[110]⟩ ++ hexS p.1 1 : ByteArray) := by decide +kernel
theorem stW_port (r : Rc) {p : Nat} (h : p < 8) (h0 : p ≠ 0) : stW r (⟨#[110]⟩ ++ hexS p 1) = { r with port := (p : Int) } := by
  obtain ⟨h1, h2, h3, h4, h5, h6⟩ := port_all ⟨p, h⟩ h0
  have hm : mdK (⟨#[110]⟩ ++ hexS p 1) 4 r.md = r.md := by
    have q0 := h6 0
    have q1 := h6 1
    have q2 := h6 2
    have q3 := h6 3
    unfold mdK mdK mdK mdK mdK
    rw [if_neg (fun hh => q3 hh.2), if_neg (fun hh => q2 hh.2), if_neg (fun hh => q1 hh.2), if_neg (fun hh => q0 hh.2)]
  unfold stW swW
  rw [if_neg h1, if_neg h2, if_neg h3, if_pos h4, hm]
  unfold digW
  rw [h5]
  dsimp only
  rw [wu8 (by omega)]
theorem foldl_skip {f : Rc → ByteArray → Rc} : ∀ (l : List ByteArray) (r : Rc), (l.filter (fun s => !decide (s = (⟨#[]⟩ : ByteArray)))).foldl f r = l.foldl (fun r w => if w = (⟨#[]⟩ : ByteArray) then r else f r w) r
  | [], r => rfl
  | w :: l, r => by
    rw [List.filter_cons, List.foldl_cons]
    by_cases h : w = (⟨#[]⟩ : ByteArray)
    · rw [if_neg (by rw [decide_eq_true h]; decide), if_pos h, foldl_skip l r]
    · rw [if_pos (by rw [decide_eq_false h]; rfl), if_neg h, List.foldl_cons, foldl_skip l _]
/-- What the words of a record do to a record that has none. -/
theorem fold_line {f : Rc → ByteArray → Rc} (hr : ∀ r : Rc, f r ⟨#[114]⟩ = { r with rd := true }) (hw : ∀ r : Rc, f r ⟨#[119]⟩ = { r with wr := true }) (hq : ∀ r : Rc, f r ⟨#[113]⟩ = { r with q := true })
    (hp : ∀ (r : Rc) (p : Nat), p < 8 → p ≠ 0 → f r (⟨#[110]⟩ ++ hexS p 1) = { r with port := (p : Int) }) (hd : ∀ (r : Rc) (k : Nat), k < 4 → k ≠ 0 → f r (mdL.getD k eB) = { r with md := (k : Int) })
    {x : Rc} (ho : OkR x) (hm : mayB x = true) (c a d : Int) : ((accW x 8).drop 3).foldl f ⟨c, a, d, false, false, 0, false, 0⟩ = ⟨c, a, d, x.rd, x.wr, x.port, x.q, x.md⟩ := by
  obtain ⟨hc3, hp7, hm3⟩ : x.code ≤ 3 ∧ x.port ≤ 7 ∧ x.md ≤ 3 := by
    unfold mayB at hm
    simp only [Bool.and_eq_true, decide_eq_true_eq] at hm
    exact ⟨hm.1.1.1, hm.1.1.2, hm.1.2⟩
  have hpo := ho.port
  have hmd := ho.md
  rw [accW_8]
  simp only [List.drop_succ_cons, List.drop_zero]
  rw [foldl_skip]
  simp only [List.foldl_cons, List.foldl_nil]
  have s3 : ∀ (b : Bool) (r : Rc), r.rd = false → (if whenS b ⟨#[114]⟩ = (⟨#[]⟩ : ByteArray) then r else f r (whenS b ⟨#[114]⟩)) = { r with rd := b } := fun b r h => by
    cases b
    · rw [show whenS false ⟨#[114]⟩ = (⟨#[]⟩ : ByteArray) from rfl, if_pos rfl, ← h]
    · rw [show whenS true ⟨#[114]⟩ = (⟨#[114]⟩ : ByteArray) from rfl, if_neg (by decide), hr]
  have s4 : ∀ (b : Bool) (r : Rc), r.wr = false → (if whenS b ⟨#[119]⟩ = (⟨#[]⟩ : ByteArray) then r else f r (whenS b ⟨#[119]⟩)) = { r with wr := b } := fun b r h => by
    cases b
    · rw [show whenS false ⟨#[119]⟩ = (⟨#[]⟩ : ByteArray) from rfl, if_pos rfl, ← h]
    · rw [show whenS true ⟨#[119]⟩ = (⟨#[119]⟩ : ByteArray) from rfl, if_neg (by decide), hw]
  have s6 : ∀ (b : Bool) (r : Rc), r.q = false → (if whenS b ⟨#[113]⟩ = (⟨#[]⟩ : ByteArray) then r else f r (whenS b ⟨#[113]⟩)) = { r with q := b } := fun b r h => by
    cases b
    · rw [show whenS false ⟨#[113]⟩ = (⟨#[]⟩ : ByteArray) from rfl, if_pos rfl, ← h]
    · rw [show whenS true ⟨#[113]⟩ = (⟨#[113]⟩ : ByteArray) from rfl, if_neg (by decide), hq]
  have s5 : ∀ r : Rc, r.port = 0 → (if whenS (!decide (x.port = 0)) (⟨#[110]⟩ ++ hexS x.port.toNat 1) = (⟨#[]⟩ : ByteArray) then r else f r (whenS (!decide (x.port = 0)) (⟨#[110]⟩ ++ hexS x.port.toNat 1))) = { r with port := x.port } := fun r h => by
    by_cases h0 : x.port = 0
    · rw [h0, show whenS (!decide ((0 : Int) = 0)) (⟨#[110]⟩ ++ hexS (0 : Int).toNat 1) = (⟨#[]⟩ : ByteArray) from rfl, if_pos rfl, ← h]
    · have e : whenS (!decide (x.port = 0)) (⟨#[110]⟩ ++ hexS x.port.toNat 1) = ⟨#[110]⟩ ++ hexS x.port.toNat 1 := by rw [decide_eq_false h0]; rfl
      rw [e, if_neg (ne_of_size (by rw [bapp_size, hexS_size]; decide)), hp r x.port.toNat (by omega) (by omega), Int.toNat_of_nonneg hpo.1]
  have s7 : ∀ r : Rc, r.md = 0 → (if mdL.getD (x.md.toNat % 4) ⟨#[]⟩ = (⟨#[]⟩ : ByteArray) then r else f r (mdL.getD (x.md.toNat % 4) ⟨#[]⟩)) = { r with md := x.md } := fun r h => by
    have hk : x.md.toNat % 4 = x.md.toNat := Nat.mod_eq_of_lt (by omega)
    rw [hk]
    by_cases h0 : x.md = 0
    · rw [h0, show mdL.getD (0 : Int).toNat ⟨#[]⟩ = (⟨#[]⟩ : ByteArray) from rfl, if_pos rfl, ← h]
    · have hne : ∀ k, k < 4 → k ≠ 0 → mdL.getD k ⟨#[]⟩ ≠ (⟨#[]⟩ : ByteArray) := by decide
      rw [if_neg (hne _ (by omega) (by omega)), hd r x.md.toNat (by omega) (by omega), Int.toNat_of_nonneg hmd.1]
  have e3 := s3 x.rd ⟨c, a, d, false, false, 0, false, 0⟩ rfl
  have e4 := s4 x.wr ⟨c, a, d, x.rd, false, 0, false, 0⟩ rfl
  have e5 := s5 ⟨c, a, d, x.rd, x.wr, 0, false, 0⟩ rfl
  have e6 := s6 x.q ⟨c, a, d, x.rd, x.wr, x.port, false, 0⟩ rfl
  have e7 := s7 ⟨c, a, d, x.rd, x.wr, x.port, x.q, 0⟩ rfl
  rw [show wordAt x 3 = whenS x.rd ⟨#[114]⟩ from rfl, show wordAt x 4 = whenS x.wr ⟨#[119]⟩ from rfl, show wordAt x 5 = whenS (!decide (x.port = 0)) (⟨#[110]⟩ ++ hexS x.port.toNat 1) from rfl, show wordAt x 6 = whenS x.q ⟨#[113]⟩ from rfl, show wordAt x 7 = mdL.getD (x.md.toNat % 4) ⟨#[]⟩ from rfl, e3, e4, e5, e6, e7]
end Go.Proofs.YtcenlgofldnfcaaDoor
set_option linter.unusedVariables false
set_option linter.unusedSimpArgs false
namespace Go.Proofs.YtcenlgofldnfcaaDoor
open Go.RowKit Go.SX Go.Proofs
/-! Both ways give back what was printed, so they are the same. -/
theorem pre_app (a b : ByteArray) : preB (a ++ b) a = true := by
  unfold preB Lib.hasPrefix
  rw [ba_app]
  simp
theorem tail_app (y : UInt8) (b : ByteArray) : tailB ((⟨#[y]⟩ : ByteArray) ++ b) = b := ba_ext (by
  unfold tailB
  rw [Lib.extract_to_end, ba_app]
  rfl)
theorem rd0_line {x : Rc} (ho : OkR x) (hm : mayB x = true) : rd0 (accW x 8) = ⟨x.code, x.ad, x.data, false, false, 0, false, 0⟩ := by
  have hc3 : x.code ≤ 3 := by
    unfold mayB at hm
    simp only [Bool.and_eq_true, decide_eq_true_eq] at hm
    exact hm.1.1.1
  have h1 := ho.code
  have h2 := ho.ad
  have h3 := ho.data
  have e0 : digW (tailB (wordAt x 0)) = x.code := by
    unfold digW
    rw [show wordAt x 0 = ⟨#[115]⟩ ++ hexS x.code.toNat 1 from rfl, tail_app, numS_hex (by decide) (by decide) (by omega)]
    exact Int.toNat_of_nonneg h1.1
  have e1 : digW (wordAt x 1) = x.ad := by
    unfold digW
    rw [show wordAt x 1 = hexS x.ad.toNat 4 from rfl, numS_hex (by decide) (by decide) (by omega)]
    exact Int.toNat_of_nonneg h2.1
  have e2 : digW (wordAt x 2) = x.data := by
    unfold digW
    rw [show wordAt x 2 = hexS x.data.toNat 2 from rfl, numS_hex (by decide) (by decide) (by omega)]
    exact Int.toNat_of_nonneg h3.1
  rw [accW_8]
  unfold rd0
  simp only [List.getD_cons_zero, List.getD_cons_succ]
  rw [e0, e1, e2, wu8 (by omega), wu16 (by omega), wu8 (by omega)]
theorem rdP_line {x : Rc} (ho : OkR x) (hm : mayB x = true) : rdP (lineS x) = x := by
  unfold rdP
  rw [line_words, rd0_line ho hm, fold_line stW_r stW_w stW_q (fun r p h h0 => stW_port r h h0) (fun r k h h0 => stW_md r k h h0) ho hm]
theorem accW_len3 (x : Rc) : 3 ≤ (accW x 8).length := by
  rw [accW_8]
  simp only [List.length_cons]
  omega
theorem accW_0 (x : Rc) : (accW x 8).getD 0 eB = ⟨#[115]⟩ ++ hexS x.code.toNat 1 := by rw [accW_8]; rfl
theorem accW_1 (x : Rc) : (accW x 8).getD 1 eB = hexS x.ad.toNat 4 := by rw [accW_8]; rfl
theorem accW_2 (x : Rc) : (accW x 8).getD 2 eB = hexS x.data.toNat 2 := by rw [accW_8]; rfl
theorem readP_line {x : Rc} (ho : OkR x) (hm : mayB x = true) : readP (lineS x) = (x, true) := by
  unfold readP
  rw [line_words, if_pos ⟨accW_len3 x, by rw [accW_0]; exact pre_app _ _⟩, rdP_line ho hm, hm, decide_eq_true rfl]
  rfl
/-- The document's record. -/
def swR (r : Rc) (w : ByteArray) : Rc := if w = ⟨#[114]⟩ then { r with rd := true } else if w = ⟨#[119]⟩ then { r with wr := true } else if w = ⟨#[113]⟩ then { r with q := true } else if w = ⟨#[112, 97, 117, 115, 101]⟩ then { r with md := 1 } else if w = ⟨#[114, 101, 115, 101, 116]⟩ then { r with md := 2 } else if w = ⟨#[108, 111, 97, 100]⟩ then { r with md := 3 } else if w.size = 2 then { r with port := IntKind.u8.wrap ((nums8 w).getD 1 0 - 48) } else r
def rd0R (ws : List ByteArray) : Rc := ⟨IntKind.u8.wrap ((nums8 (ws.getD 0 eB)).getD 1 0 - 48), IntKind.u16.wrap (((numS (ws.getD 1 eB)).getD 0 : Nat) : Int), IntKind.u8.wrap (((numS (ws.getD 2 eB)).getD 0 : Nat) : Int), false, false, 0, false, 0⟩
def recR (s : ByteArray) : Rc := ((wordsR s).drop 3).foldl swR (rd0R (wordsR s))
def badR (s : ByteArray) : Prop := 40 < s.size ∨ (wordsR s).length < 3 ∨ ((wordsR s).getD 0 eB).size ≠ 2
def badN (s : ByteArray) : Prop := (numS ((wordsR s).getD 1 eB)).isSome = false ∨ (numS ((wordsR s).getD 2 eB)).isSome = false ∨ 65535 < (numS ((wordsR s).getD 1 eB)).getD 0 ∨ 255 < (numS ((wordsR s).getD 2 eB)).getD 0
instance (s : ByteArray) : Decidable (badR s) := by unfold badR; exact inferInstance
instance (s : ByteArray) : Decidable (badN s) := by unfold badN; exact inferInstance
def refP (s : ByteArray) : Rc × Bool := if badR s then (zRc, false) else if badN s then (zRc, false) else (recR s, mayB (recR s) && decide (lineS (recR s) = s))
theorem swR_r (r : Rc) : swR r ⟨#[114]⟩ = { r with rd := true } := rfl
theorem swR_w (r : Rc) : swR r ⟨#[119]⟩ = { r with wr := true } := rfl
theorem swR_q (r : Rc) : swR r ⟨#[113]⟩ = { r with q := true } := rfl
theorem swR_md (r : Rc) : ∀ k, k < 4 → k ≠ 0 → swR r (mdL.getD k eB) = { r with md := (k : Int) } := by
  intro k h h0
  match k, h, h0 with
  | 1, _, _ => rfl
  | 2, _, _ => rfl
  | 3, _, _ => rfl
theorem portR_all : ∀ p : Fin 8, p.1 ≠ 0 → (⟨#[110]⟩ ++ hexS p.1 1 : ByteArray) ≠ ⟨#[114]⟩ ∧ (⟨#[110]⟩ ++ hexS p.1 1 : ByteArray) ≠ ⟨#[119]⟩ ∧ (⟨#[110]⟩ ++ hexS p.1 1 : ByteArray) ≠ ⟨#[113]⟩ ∧ (⟨#[110]⟩ ++ hexS p.1 1 : ByteArray) ≠ ⟨#[112, 97, 117, 115, 101]⟩ ∧ (⟨#[110]⟩ ++ hexS p.1 1 : ByteArray) ≠ ⟨#[114, 101, 115, 101, 116]⟩ ∧ (⟨#[110]⟩ ++ hexS p.1 1 : ByteArray) ≠ ⟨#[108, 111, 97, 100]⟩ ∧ (⟨#[110]⟩ ++ hexS p.1 1 : ByteArray).size = 2 ∧ (nums8 (⟨#[110]⟩ ++ hexS p.1 1)).getD 1 0 = (p.1 : Int) + 48 := by decide +kernel
theorem swR_port (r : Rc) {p : Nat} (h : p < 8) (h0 : p ≠ 0) : swR r (⟨#[110]⟩ ++ hexS p 1) = { r with port := (p : Int) } := by
  obtain ⟨h1, h2, h3, h4, h5, h6, h7, h8⟩ := portR_all ⟨p, h⟩ h0
  unfold swR
  rw [if_neg h1, if_neg h2, if_neg h3, if_neg h4, if_neg h5, if_neg h6, if_pos h7, h8, Int.add_sub_cancel, wu8 (by omega)]
theorem code_all : ∀ p : Fin 4, (⟨#[115]⟩ ++ hexS p.1 1 : ByteArray).size = 2 ∧ (nums8 (⟨#[115]⟩ ++ hexS p.1 1)).getD 1 0 = (p.1 : Int) + 48 := by decide +kernel
theorem rd0R_line {x : Rc} (ho : OkR x) (hm : mayB x = true) : rd0R (accW x 8) = ⟨x.code, x.ad, x.data, false, false, 0, false, 0⟩ := by
  have hc3 : x.code ≤ 3 := by
    unfold mayB at hm
    simp only [Bool.and_eq_true, decide_eq_true_eq] at hm
    exact hm.1.1.1
  have h1 := ho.code
  have h2 := ho.ad
  have h3 := ho.data
  unfold rd0R
  rw [accW_0, accW_1, accW_2, (code_all ⟨x.code.toNat, by omega⟩).2, Int.add_sub_cancel, numS_hex (by decide) (by decide) (by omega), numS_hex (by decide) (by decide) (by omega)]
  simp only [Option.getD_some, Int.toNat_of_nonneg h1.1, Int.toNat_of_nonneg h2.1, Int.toNat_of_nonneg h3.1]
  rw [wu8 (by omega), wu16 (by omega), wu8 (by omega)]
theorem recR_line {x : Rc} (ho : OkR x) (hm : mayB x = true) : recR (lineS x) = x := by
  unfold recR
  rw [line_wordsR, rd0R_line ho hm, fold_line swR_r swR_w swR_q (fun r p h h0 => swR_port r h h0) (fun r k h h0 => swR_md r k h h0) ho hm]
theorem p8_size (x : Rc) : (p8 x).size ≤ 25 := by
  have h := p7_size x
  unfold p8
  split
  · rw [bapp_size]; have : (⟨#[32, 112, 97, 117, 115, 101]⟩ : ByteArray).size = 6 := rfl; omega
  · split
    · rw [bapp_size]; have : (⟨#[32, 114, 101, 115, 101, 116]⟩ : ByteArray).size = 6 := rfl; omega
    · split
      · rw [bapp_size]; have : (⟨#[32, 108, 111, 97, 100]⟩ : ByteArray).size = 5 := rfl; omega
      · omega
theorem refP_line {x : Rc} (ho : OkR x) (hm : mayB x = true) : refP (lineS x) = (x, true) := by
  have hc3 : x.code ≤ 3 := by
    have hm' := hm
    unfold mayB at hm'
    simp only [Bool.and_eq_true, decide_eq_true_eq] at hm'
    exact hm'.1.1.1
  have h1 := ho.code
  have h2 := ho.ad
  have h3 := ho.data
  have hs := p8_size x
  have hb : ¬ badR (lineS x) := by
    unfold badR
    rw [line_wordsR, accW_0, (code_all ⟨x.code.toNat, by omega⟩).1, lineS_eq ho hm]
    have := accW_len3 x
    omega
  have hn : ¬ badN (lineS x) := by
    unfold badN
    rw [line_wordsR, accW_1, accW_2, numS_hex (by decide) (by decide) (by omega), numS_hex (by decide) (by decide) (by omega)]
    simp only [Option.isSome_some, Option.getD_some, Bool.true_eq_false, false_or]
    omega
  unfold refP
  rw [if_neg hb, if_neg hn, recR_line ho hm, hm, decide_eq_true rfl]
  rfl
theorem wr8 (x : Int) : 0 ≤ IntKind.u8.wrap x ∧ IntKind.u8.wrap x ≤ 255 := by rw [IntKind.wrap_u8]; omega
theorem wr16 (x : Int) : 0 ≤ IntKind.u16.wrap x ∧ IntKind.u16.wrap x ≤ 65535 := by rw [IntKind.wrap_u16]; omega
theorem fold_ok {f : Rc → ByteArray → Rc} (hf : ∀ r w, OkR r → OkR (f r w)) : ∀ (l : List ByteArray) (r : Rc), OkR r → OkR (l.foldl f r)
  | [], r, h => h
  | w :: l, r, h => fold_ok hf l _ (hf r w h)
theorem mdK_ok (w : ByteArray) {m : Int} (h : 0 ≤ m ∧ m ≤ 255) : ∀ k, k ≤ 4 → 0 ≤ mdK w k m ∧ mdK w k m ≤ 255
  | 0, _ => h
  | k + 1, hk => by
    unfold mdK
    split
    · omega
    · exact mdK_ok w h k (by omega)
theorem swW_ok {r : Rc} {w : ByteArray} (h : OkR r) : OkR (swW r w) := by
  unfold swW
  split
  · exact ⟨h.code, h.ad, h.data, h.port, h.md⟩
  · split
    · exact ⟨h.code, h.ad, h.data, h.port, h.md⟩
    · split
      · exact ⟨h.code, h.ad, h.data, h.port, h.md⟩
      · split
        · exact ⟨h.code, h.ad, h.data, wr8 _, h.md⟩
        · exact h
theorem stW_ok (r : Rc) (w : ByteArray) (h : OkR r) : OkR (stW r w) := by
  have h1 := swW_ok (w := w) h
  exact ⟨h1.code, h1.ad, h1.data, h1.port, mdK_ok w h.md 4 (by decide)⟩
theorem rd0_ok (ws : List ByteArray) : OkR (rd0 ws) := ⟨wr8 _, wr16 _, wr8 _, ⟨by show (0 : Int) ≤ 0; decide, by show (0 : Int) ≤ 255; decide⟩, ⟨by show (0 : Int) ≤ 0; decide, by show (0 : Int) ≤ 255; decide⟩⟩
theorem rdP_ok (s : ByteArray) : OkR (rdP s) := fold_ok stW_ok _ _ (rd0_ok _)
theorem swR_ok (r : Rc) (w : ByteArray) (h : OkR r) : OkR (swR r w) := by
  unfold swR
  split
  · exact ⟨h.code, h.ad, h.data, h.port, h.md⟩
  split
  · exact ⟨h.code, h.ad, h.data, h.port, h.md⟩
  split
  · exact ⟨h.code, h.ad, h.data, h.port, h.md⟩
  split
  · exact ⟨h.code, h.ad, h.data, h.port, by show (0 : Int) ≤ 1 ∧ (1 : Int) ≤ 255; decide⟩
  split
  · exact ⟨h.code, h.ad, h.data, h.port, by show (0 : Int) ≤ 2 ∧ (2 : Int) ≤ 255; decide⟩
  split
  · exact ⟨h.code, h.ad, h.data, h.port, by show (0 : Int) ≤ 3 ∧ (3 : Int) ≤ 255; decide⟩
  split
  · exact ⟨h.code, h.ad, h.data, wr8 _, h.md⟩
  · exact h
theorem rd0R_ok (ws : List ByteArray) : OkR (rd0R ws) := ⟨wr8 _, wr16 _, wr8 _, ⟨by show (0 : Int) ≤ 0; decide, by show (0 : Int) ≤ 255; decide⟩, ⟨by show (0 : Int) ≤ 0; decide, by show (0 : Int) ≤ 255; decide⟩⟩
theorem recR_ok (s : ByteArray) : OkR (recR s) := fold_ok swR_ok _ _ (rd0R_ok _)
theorem readP_yes {s : ByteArray} (h : (readP s).2 = true) : lineS (readP s).1 = s ∧ mayB (readP s).1 = true ∧ OkR (readP s).1 := by
  unfold readP at h ⊢
  split at h
  · rename_i hc
    rw [if_pos hc]
    simp only [Bool.and_eq_true, decide_eq_true_eq] at h
    exact ⟨h.2, h.1, rdP_ok s⟩
  · cases h
theorem refP_yes {s : ByteArray} (h : (refP s).2 = true) : lineS (refP s).1 = s ∧ mayB (refP s).1 = true ∧ OkR (refP s).1 := by
  unfold refP at h ⊢
  split at h
  · cases h
  · rename_i h1
    split at h
    · cases h
    · rename_i h2
      rw [if_neg h1, if_neg h2]
      simp only [Bool.and_eq_true, decide_eq_true_eq] at h
      exact ⟨h.2, h.1, recR_ok s⟩
theorem both_ok (s : ByteArray) : (readP s).2 = (refP s).2 := by
  rcases h : (readP s).2 with _ | _
  · rcases h' : (refP s).2 with _ | _
    · rfl
    · obtain ⟨e, hm, ho⟩ := refP_yes h'
      rw [← e, readP_line ho hm] at h
      cases h
  · obtain ⟨e, hm, ho⟩ := readP_yes h
    rw [← e, refP_line ho hm]
theorem both_same {s : ByteArray} (h : (readP s).2 = true) : (readP s).1 = (refP s).1 := by
  obtain ⟨e, hm, ho⟩ := readP_yes h
  have h' : (refP (lineS (readP s).1)) = ((readP s).1, true) := refP_line ho hm
  rw [e] at h'
  rw [h']
end Go.Proofs.YtcenlgofldnfcaaDoor
