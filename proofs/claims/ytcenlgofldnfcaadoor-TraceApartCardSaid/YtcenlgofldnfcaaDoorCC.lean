/- A part of a proof: contracts and plain facts that it stands on. -/
import Derived.Test.YtcenlgofldnfcaaDoorCB
import Derived.Laws.IdiomStrings
import Derived.KernelRfl
set_option linter.unusedVariables false
set_option linter.unusedSimpArgs false
namespace Go.Proofs.YtcenlgofldnfcaaDoor
open Go.RowKit Go.SX Go.Proofs
open Go.SX renaming ia_someH → Φa

/-! A record's line. -/
structure OkR (r : Rc) : Prop where
  code : 0 ≤ r.code ∧ r.code ≤ 255
  ad : 0 ≤ r.ad ∧ r.ad ≤ 65535
  data : 0 ≤ r.data ∧ r.data ≤ 255
  port : 0 ≤ r.port ∧ r.port ≤ 255
  md : 0 ≤ r.md ∧ r.md ≤ 255
theorem SCall.pre {Γ : Ctx} {f : FuncId} {args : Array Value} {L L' : Hp} {R : Value → Hp → Prop} (hl : Less L L') (h : SCall Γ f args L' R) : SCall Γ f args L R := fun w hi => h w (hl _ _ hi)
def mdL : List ByteArray := [⟨#[]⟩, ⟨#[112, 97, 117, 115, 101]⟩, ⟨#[114, 101, 115, 101, 116]⟩, ⟨#[108, 111, 97, 100]⟩]
def MD (Γ : Ctx) : Prop := ∀ (L : Hp) (i : Nat), i < 4 → Cell Γ L ⟨0, i, none⟩ (.string (mdL.getD i ⟨#[]⟩))
def whenS (b : Bool) (s : ByteArray) : ByteArray := if b = true then s else ⟨#[]⟩
def kAt (i : Nat) : FuncId := [58, 60, 61, 62, 64, 65, 66, 67].getD i 58
def wordAt (x : Rc) : Nat → ByteArray
  | 0 => ⟨#[115]⟩ ++ hexS x.code.toNat 1
  | 1 => hexS x.ad.toNat 4
  | 2 => hexS x.data.toNat 2
  | 3 => whenS x.rd ⟨#[114]⟩
  | 4 => whenS x.wr ⟨#[119]⟩
  | 5 => whenS (!decide (x.port = 0)) (⟨#[110]⟩ ++ hexS x.port.toNat 1)
  | 6 => whenS x.q ⟨#[113]⟩
  | _ => mdL.getD (x.md.toNat % 4) ⟨#[]⟩
theorem hexS_size (n k : Nat) : (hexS n k).size = k := by unfold hexS; rw [txt_size, hexF_length]
theorem and3 {x : Int} (h : 0 ≤ x ∧ x ≤ 255) : bits .and .u8 x 3 = ((x.toNat % 4 : Nat) : Int) := by
  have key : ∀ k : Fin 256, bits .and .u8 (k.1 : Int) 3 = ((k.1 % 4 : Nat) : Int) := by decide +kernel
  have := key ⟨x.toNat, by omega⟩
  rw [show ((⟨x.toNat, by omega⟩ : Fin 256).1 : Int) = x by show ((x.toNat : Nat) : Int) = x; omega] at this
  exact this
set_option maxHeartbeats 1000000 in
set_option maxRecDepth 100000 in
theorem when_spec {Γ : Ctx} (hP : Γ.P = Tryd.prog) {L : Hp} {on : Bool} {s : ByteArray} :
    SCall Γ 63 #[(.bool on), (.string s)] L (fun v L' => v = .string (whenS on s) ∧ L' = L) := by
  refine SCall.enter (n := 7) (res1 4) (hP ▸ Tryd.func63) rfl rfl (by simp) (res1_ok rfl) ?_
  refine SX.seq_k fun K1 hK1 => ?_
  refine SX.region_d [some 4] rfl (fun ops hops => ?_)
  unfold Dsts at hops
  simp (maxSteps:=1000000)(dsimp:=false)(disch:=omega) only [go_sem, Φa, hP, hops]
  refine hK1 _ _ ?_
  try clear hK1 K1
  refine SX.seq_k fun K2 hK2 => ?_
  refine SX.seq_k fun K3 hK3 => ?_
  refine SX.region_d [some 5] rfl (fun ops hops => ?_)
  unfold Dsts at hops
  simp (maxSteps:=1000000)(dsimp:=false)(disch:=omega) only [go_sem, Φa, hP, hops]
  refine hK3 _ _ ?_
  try clear hK3 K3
  refine SX.cond_k fun X4 Y4 hX4 hY4 => ?_
  simp (maxSteps:=1000000)(dsimp:=false)(disch:=omega) only [go_sem, Φa, hP, condVC]
  refine ⟨fun hc5 => hX4 ?_, fun hc5 => hY4 ?_⟩
  · clear hX4 hY4 X4 Y4
    refine SX.seq_k fun K5 hK5 => ?_
    refine SX.region_d [some 6, some 4] rfl (fun ops hops => ?_)
    unfold Dsts at hops
    simp (maxSteps:=1000000)(dsimp:=false)(disch:=omega) only [go_sem, Φa, hP, hops]
    refine hK5 _ _ ?_
    try clear hK5 K5
    refine SX.ret ?_
    simp only [andThen_normal, andThen_ret, andThen_exit, inBlk_normal, inBlk_ret, inBlk_exit, Nat.reduceEqDiff, if_true, if_false, ↓reduceIte, retQ_ret]
    try simp only [res0, res1, res2, res3, stK_e, go_sem, Φa, hP]
    obtain rfl : on = true := hc5
    exact ⟨_, _, Less.refl _, rfl, rfl, rfl⟩
  · clear hX4 hY4 X4 Y4
    refine SX.skip ?_
    try simp only [andThen_normal, andThen_ret, andThen_exit, inBlk_normal, inBlk_ret, inBlk_exit, Nat.reduceEqDiff, if_true, if_false, ↓reduceIte]
    refine hK2 _ _ ?_
    try clear hK2 K2
    refine SX.seq_k fun K6 hK6 => ?_
    refine SX.region_d [some 4] rfl (fun ops hops => ?_)
    unfold Dsts at hops
    simp (maxSteps:=1000000)(dsimp:=false)(disch:=omega) only [go_sem, Φa, hP, hops]
    refine hK6 _ _ ?_
    try clear hK6 K6
    refine SX.ret ?_
    simp only [andThen_normal, andThen_ret, andThen_exit, inBlk_normal, inBlk_ret, inBlk_exit, Nat.reduceEqDiff, if_true, if_false, ↓reduceIte, retQ_ret]
    try simp only [res0, res1, res2, res3, stK_e, go_sem, Φa, hP]
    obtain rfl : on = false := hc5
    exact ⟨_, _, Less.refl _, rfl, rfl, rfl⟩
set_option maxHeartbeats 1000000 in
set_option maxRecDepth 100000 in
theorem w0_spec {Γ : Ctx} (hP : Γ.P = Tryd.prog) {L : Hp} {x : Rc} (ho : OkR x) (hc : x.code ≤ 3) :
    SCall Γ 58 #[(.agg x.cells.toArray)] L (fun v L' => v = .string (wordAt x 0) ∧ L' = L) := by
  have hcd := ho.code
  have had := ho.ad
  have hda := ho.data
  have hpo := ho.port
  have hmd := ho.md
  have code_nat : x.code = ((x.code.toNat : Nat) : Int) := by omega
  have ad_nat : x.ad = ((x.ad.toNat : Nat) : Int) := by omega
  have data_nat : x.data = ((x.data.toNat : Nat) : Int) := by omega
  have port_nat : x.port = ((x.port.toNat : Nat) : Int) := by omega
  refine SCall.enter (n := 8) (res1 2) (hP ▸ Tryd.func58) rfl rfl (by simp) (res1_ok rfl) ?_
  refine SX.seq_k fun K1 hK1 => ?_
  refine SX.region_d [some 1, some 2] rfl (fun ops hops => ?_)
  unfold Dsts at hops
  simp (maxSteps:=1000000)(dsimp:=false)(disch:=omega) only [go_sem, Φa, hP, hops]
  intro b0
  try with_reducible refine stI ?_
  try simp (maxSteps:=1000000)(dsimp:=false)(disch:=omega) only [go_sem, Φa, hP, hops]
  refine hK1 _ _ ?_
  try clear hK1 K1
  refine SX.seq_k fun K2 hK2 => ?_
  refine SX.region_d [some 3, some 4, some 5, some 6, some 7, some 2] rfl (fun ops hops => ?_)
  unfold Dsts at hops
  simp (maxSteps:=1000000)(dsimp:=false)(disch:=omega) only [go_sem, Φa, hP, hops]
  refine ⟨_, Cell.at 0 rfl (show (Rc.cells _)[0]? = _ from rfl), ?_⟩
  try with_reducible refine stI ?_
  try simp (maxSteps:=1000000)(dsimp:=false)(disch:=omega) only [go_sem, Φa, hP, hops]
  try rw [w64 (by omega)]
  rw [show (Value.int .i64 x.code) = .int .i64 ((x.code.toNat : Nat) : Int) by rw [← code_nat]]
  refine SCall.mono (Hex_spec (n := x.code.toNat) (m := 1) hP (by decide) (by decide) (by omega)) ?_
  rintro v_ L_ ⟨hv_, hL_⟩
  rw [hv_, hL_]
  clear hv_ hL_ v_ L_
  try with_reducible refine stI ?_
  try simp (maxSteps:=1000000)(dsimp:=false)(disch:=omega) only [go_sem, Φa, hP, hops]
  refine And.intro (by rw [hexS_size]; decide) ?_
  try with_reducible refine stI ?_
  try simp (maxSteps:=1000000)(dsimp:=false)(disch:=omega) only [go_sem, Φa, hP, hops]
  refine hK2 _ _ ?_
  try clear hK2 K2
  refine SX.ret ?_
  simp only [andThen_normal, andThen_ret, andThen_exit, inBlk_normal, inBlk_ret, inBlk_exit, Nat.reduceEqDiff, if_true, if_false, ↓reduceIte, retQ_ret]
  try simp only [res0, res1, res2, res3, stK_e, go_sem, Φa, hP]
  exact ⟨_, _, Less.drop _ _, rfl, rfl, rfl⟩
set_option maxHeartbeats 1000000 in
set_option maxRecDepth 100000 in
theorem w1_spec {Γ : Ctx} (hP : Γ.P = Tryd.prog) {L : Hp} {x : Rc} (ho : OkR x) :
    SCall Γ 60 #[(.agg x.cells.toArray)] L (fun v L' => v = .string (wordAt x 1) ∧ L' = L) := by
  have hcd := ho.code
  have had := ho.ad
  have hda := ho.data
  have hpo := ho.port
  have hmd := ho.md
  have code_nat : x.code = ((x.code.toNat : Nat) : Int) := by omega
  have ad_nat : x.ad = ((x.ad.toNat : Nat) : Int) := by omega
  have data_nat : x.data = ((x.data.toNat : Nat) : Int) := by omega
  have port_nat : x.port = ((x.port.toNat : Nat) : Int) := by omega
  refine SCall.enter (n := 7) (res1 2) (hP ▸ Tryd.func60) rfl rfl (by simp) (res1_ok rfl) ?_
  refine SX.seq_k fun K1 hK1 => ?_
  refine SX.region_d [some 1, some 2] rfl (fun ops hops => ?_)
  unfold Dsts at hops
  simp (maxSteps:=1000000)(dsimp:=false)(disch:=omega) only [go_sem, Φa, hP, hops]
  intro b0
  try with_reducible refine stI ?_
  try simp (maxSteps:=1000000)(dsimp:=false)(disch:=omega) only [go_sem, Φa, hP, hops]
  refine hK1 _ _ ?_
  try clear hK1 K1
  refine SX.seq_k fun K2 hK2 => ?_
  refine SX.region_d [some 3, some 4, some 5, some 6, some 2] rfl (fun ops hops => ?_)
  unfold Dsts at hops
  simp (maxSteps:=1000000)(dsimp:=false)(disch:=omega) only [go_sem, Φa, hP, hops]
  refine ⟨_, Cell.at 0 rfl (show (Rc.cells _)[1]? = _ from rfl), ?_⟩
  try with_reducible refine stI ?_
  try simp (maxSteps:=1000000)(dsimp:=false)(disch:=omega) only [go_sem, Φa, hP, hops]
  try rw [w64 (by omega)]
  rw [show (Value.int .i64 x.ad) = .int .i64 ((x.ad.toNat : Nat) : Int) by rw [← ad_nat]]
  refine SCall.mono (Hex_spec (n := x.ad.toNat) (m := 4) hP (by decide) (by decide) (by omega)) ?_
  rintro v_ L_ ⟨hv_, hL_⟩
  rw [hv_, hL_]
  clear hv_ hL_ v_ L_
  try with_reducible refine stI ?_
  try simp (maxSteps:=1000000)(dsimp:=false)(disch:=omega) only [go_sem, Φa, hP, hops]
  refine hK2 _ _ ?_
  try clear hK2 K2
  refine SX.ret ?_
  simp only [andThen_normal, andThen_ret, andThen_exit, inBlk_normal, inBlk_ret, inBlk_exit, Nat.reduceEqDiff, if_true, if_false, ↓reduceIte, retQ_ret]
  try simp only [res0, res1, res2, res3, stK_e, go_sem, Φa, hP]
  exact ⟨_, _, Less.drop _ _, rfl, rfl, rfl⟩
set_option maxHeartbeats 1000000 in
set_option maxRecDepth 100000 in
theorem w2_spec {Γ : Ctx} (hP : Γ.P = Tryd.prog) {L : Hp} {x : Rc} (ho : OkR x) :
    SCall Γ 61 #[(.agg x.cells.toArray)] L (fun v L' => v = .string (wordAt x 2) ∧ L' = L) := by
  have hcd := ho.code
  have had := ho.ad
  have hda := ho.data
  have hpo := ho.port
  have hmd := ho.md
  have code_nat : x.code = ((x.code.toNat : Nat) : Int) := by omega
  have ad_nat : x.ad = ((x.ad.toNat : Nat) : Int) := by omega
  have data_nat : x.data = ((x.data.toNat : Nat) : Int) := by omega
  have port_nat : x.port = ((x.port.toNat : Nat) : Int) := by omega
  refine SCall.enter (n := 7) (res1 2) (hP ▸ Tryd.func61) rfl rfl (by simp) (res1_ok rfl) ?_
  refine SX.seq_k fun K1 hK1 => ?_
  refine SX.region_d [some 1, some 2] rfl (fun ops hops => ?_)
  unfold Dsts at hops
  simp (maxSteps:=1000000)(dsimp:=false)(disch:=omega) only [go_sem, Φa, hP, hops]
  intro b0
  try with_reducible refine stI ?_
  try simp (maxSteps:=1000000)(dsimp:=false)(disch:=omega) only [go_sem, Φa, hP, hops]
  refine hK1 _ _ ?_
  try clear hK1 K1
  refine SX.seq_k fun K2 hK2 => ?_
  refine SX.region_d [some 3, some 4, some 5, some 6, some 2] rfl (fun ops hops => ?_)
  unfold Dsts at hops
  simp (maxSteps:=1000000)(dsimp:=false)(disch:=omega) only [go_sem, Φa, hP, hops]
  refine ⟨_, Cell.at 0 rfl (show (Rc.cells _)[2]? = _ from rfl), ?_⟩
  try with_reducible refine stI ?_
  try simp (maxSteps:=1000000)(dsimp:=false)(disch:=omega) only [go_sem, Φa, hP, hops]
  try rw [w64 (by omega)]
  rw [show (Value.int .i64 x.data) = .int .i64 ((x.data.toNat : Nat) : Int) by rw [← data_nat]]
  refine SCall.mono (Hex_spec (n := x.data.toNat) (m := 2) hP (by decide) (by decide) (by omega)) ?_
  rintro v_ L_ ⟨hv_, hL_⟩
  rw [hv_, hL_]
  clear hv_ hL_ v_ L_
  try with_reducible refine stI ?_
  try simp (maxSteps:=1000000)(dsimp:=false)(disch:=omega) only [go_sem, Φa, hP, hops]
  refine hK2 _ _ ?_
  try clear hK2 K2
  refine SX.ret ?_
  simp only [andThen_normal, andThen_ret, andThen_exit, inBlk_normal, inBlk_ret, inBlk_exit, Nat.reduceEqDiff, if_true, if_false, ↓reduceIte, retQ_ret]
  try simp only [res0, res1, res2, res3, stK_e, go_sem, Φa, hP]
  exact ⟨_, _, Less.drop _ _, rfl, rfl, rfl⟩
set_option maxHeartbeats 1000000 in
set_option maxRecDepth 100000 in
theorem w3_spec {Γ : Ctx} (hP : Γ.P = Tryd.prog) {L : Hp} {x : Rc} (ho : OkR x) :
    SCall Γ 62 #[(.agg x.cells.toArray)] L (fun v L' => v = .string (wordAt x 3) ∧ L' = L) := by
  have hcd := ho.code
  have had := ho.ad
  have hda := ho.data
  have hpo := ho.port
  have hmd := ho.md
  have code_nat : x.code = ((x.code.toNat : Nat) : Int) := by omega
  have ad_nat : x.ad = ((x.ad.toNat : Nat) : Int) := by omega
  have data_nat : x.data = ((x.data.toNat : Nat) : Int) := by omega
  have port_nat : x.port = ((x.port.toNat : Nat) : Int) := by omega
  refine SCall.enter (n := 6) (res1 2) (hP ▸ Tryd.func62) rfl rfl (by simp) (res1_ok rfl) ?_
  refine SX.seq_k fun K1 hK1 => ?_
  refine SX.region_d [some 1, some 2] rfl (fun ops hops => ?_)
  unfold Dsts at hops
  simp (maxSteps:=1000000)(dsimp:=false)(disch:=omega) only [go_sem, Φa, hP, hops]
  intro b0
  try with_reducible refine stI ?_
  try simp (maxSteps:=1000000)(dsimp:=false)(disch:=omega) only [go_sem, Φa, hP, hops]
  refine hK1 _ _ ?_
  try clear hK1 K1
  refine SX.seq_k fun K2 hK2 => ?_
  refine SX.region_d [some 3, some 4, some 5, some 2] rfl (fun ops hops => ?_)
  unfold Dsts at hops
  simp (maxSteps:=1000000)(dsimp:=false)(disch:=omega) only [go_sem, Φa, hP, hops]
  refine ⟨_, Cell.at 0 rfl (show (Rc.cells _)[3]? = _ from rfl), ?_⟩
  try with_reducible refine stI ?_
  try simp (maxSteps:=1000000)(dsimp:=false)(disch:=omega) only [go_sem, Φa, hP, hops]
  refine SCall.mono (when_spec hP (on := x.rd) (s := ⟨#[114]⟩)) ?_
  rintro v_ L_ ⟨hv_, hL_⟩
  rw [hv_, hL_]
  clear hv_ hL_ v_ L_
  try with_reducible refine stI ?_
  try simp (maxSteps:=1000000)(dsimp:=false)(disch:=omega) only [go_sem, Φa, hP, hops]
  refine hK2 _ _ ?_
  try clear hK2 K2
  refine SX.ret ?_
  simp only [andThen_normal, andThen_ret, andThen_exit, inBlk_normal, inBlk_ret, inBlk_exit, Nat.reduceEqDiff, if_true, if_false, ↓reduceIte, retQ_ret]
  try simp only [res0, res1, res2, res3, stK_e, go_sem, Φa, hP]
  exact ⟨_, _, Less.drop _ _, rfl, rfl, rfl⟩
set_option maxHeartbeats 1000000 in
set_option maxRecDepth 100000 in
theorem w4_spec {Γ : Ctx} (hP : Γ.P = Tryd.prog) {L : Hp} {x : Rc} (ho : OkR x) :
    SCall Γ 64 #[(.agg x.cells.toArray)] L (fun v L' => v = .string (wordAt x 4) ∧ L' = L) := by
  have hcd := ho.code
  have had := ho.ad
  have hda := ho.data
  have hpo := ho.port
  have hmd := ho.md
  have code_nat : x.code = ((x.code.toNat : Nat) : Int) := by omega
  have ad_nat : x.ad = ((x.ad.toNat : Nat) : Int) := by omega
  have data_nat : x.data = ((x.data.toNat : Nat) : Int) := by omega
  have port_nat : x.port = ((x.port.toNat : Nat) : Int) := by omega
  refine SCall.enter (n := 6) (res1 2) (hP ▸ Tryd.func64) rfl rfl (by simp) (res1_ok rfl) ?_
  refine SX.seq_k fun K1 hK1 => ?_
  refine SX.region_d [some 1, some 2] rfl (fun ops hops => ?_)
  unfold Dsts at hops
  simp (maxSteps:=1000000)(dsimp:=false)(disch:=omega) only [go_sem, Φa, hP, hops]
  intro b0
  try with_reducible refine stI ?_
  try simp (maxSteps:=1000000)(dsimp:=false)(disch:=omega) only [go_sem, Φa, hP, hops]
  refine hK1 _ _ ?_
  try clear hK1 K1
  refine SX.seq_k fun K2 hK2 => ?_
  refine SX.region_d [some 3, some 4, some 5, some 2] rfl (fun ops hops => ?_)
  unfold Dsts at hops
  simp (maxSteps:=1000000)(dsimp:=false)(disch:=omega) only [go_sem, Φa, hP, hops]
  refine ⟨_, Cell.at 0 rfl (show (Rc.cells _)[4]? = _ from rfl), ?_⟩
  try with_reducible refine stI ?_
  try simp (maxSteps:=1000000)(dsimp:=false)(disch:=omega) only [go_sem, Φa, hP, hops]
  refine SCall.mono (when_spec hP (on := x.wr) (s := ⟨#[119]⟩)) ?_
  rintro v_ L_ ⟨hv_, hL_⟩
  rw [hv_, hL_]
  clear hv_ hL_ v_ L_
  try with_reducible refine stI ?_
  try simp (maxSteps:=1000000)(dsimp:=false)(disch:=omega) only [go_sem, Φa, hP, hops]
  refine hK2 _ _ ?_
  try clear hK2 K2
  refine SX.ret ?_
  simp only [andThen_normal, andThen_ret, andThen_exit, inBlk_normal, inBlk_ret, inBlk_exit, Nat.reduceEqDiff, if_true, if_false, ↓reduceIte, retQ_ret]
  try simp only [res0, res1, res2, res3, stK_e, go_sem, Φa, hP]
  exact ⟨_, _, Less.drop _ _, rfl, rfl, rfl⟩
set_option maxHeartbeats 1000000 in
set_option maxRecDepth 100000 in
theorem w6_spec {Γ : Ctx} (hP : Γ.P = Tryd.prog) {L : Hp} {x : Rc} (ho : OkR x) :
    SCall Γ 66 #[(.agg x.cells.toArray)] L (fun v L' => v = .string (wordAt x 6) ∧ L' = L) := by
  have hcd := ho.code
  have had := ho.ad
  have hda := ho.data
  have hpo := ho.port
  have hmd := ho.md
  have code_nat : x.code = ((x.code.toNat : Nat) : Int) := by omega
  have ad_nat : x.ad = ((x.ad.toNat : Nat) : Int) := by omega
  have data_nat : x.data = ((x.data.toNat : Nat) : Int) := by omega
  have port_nat : x.port = ((x.port.toNat : Nat) : Int) := by omega
  refine SCall.enter (n := 6) (res1 2) (hP ▸ Tryd.func66) rfl rfl (by simp) (res1_ok rfl) ?_
  refine SX.seq_k fun K1 hK1 => ?_
  refine SX.region_d [some 1, some 2] rfl (fun ops hops => ?_)
  unfold Dsts at hops
  simp (maxSteps:=1000000)(dsimp:=false)(disch:=omega) only [go_sem, Φa, hP, hops]
  intro b0
  try with_reducible refine stI ?_
  try simp (maxSteps:=1000000)(dsimp:=false)(disch:=omega) only [go_sem, Φa, hP, hops]
  refine hK1 _ _ ?_
  try clear hK1 K1
  refine SX.seq_k fun K2 hK2 => ?_
  refine SX.region_d [some 3, some 4, some 5, some 2] rfl (fun ops hops => ?_)
  unfold Dsts at hops
  simp (maxSteps:=1000000)(dsimp:=false)(disch:=omega) only [go_sem, Φa, hP, hops]
  refine ⟨_, Cell.at 0 rfl (show (Rc.cells _)[6]? = _ from rfl), ?_⟩
  try with_reducible refine stI ?_
  try simp (maxSteps:=1000000)(dsimp:=false)(disch:=omega) only [go_sem, Φa, hP, hops]
  refine SCall.mono (when_spec hP (on := x.q) (s := ⟨#[113]⟩)) ?_
  rintro v_ L_ ⟨hv_, hL_⟩
  rw [hv_, hL_]
  clear hv_ hL_ v_ L_
  try with_reducible refine stI ?_
  try simp (maxSteps:=1000000)(dsimp:=false)(disch:=omega) only [go_sem, Φa, hP, hops]
  refine hK2 _ _ ?_
  try clear hK2 K2
  refine SX.ret ?_
  simp only [andThen_normal, andThen_ret, andThen_exit, inBlk_normal, inBlk_ret, inBlk_exit, Nat.reduceEqDiff, if_true, if_false, ↓reduceIte, retQ_ret]
  try simp only [res0, res1, res2, res3, stK_e, go_sem, Φa, hP]
  exact ⟨_, _, Less.drop _ _, rfl, rfl, rfl⟩
set_option maxHeartbeats 1000000 in
set_option maxRecDepth 100000 in
theorem w5_spec {Γ : Ctx} (hP : Γ.P = Tryd.prog) {L : Hp} {x : Rc} (ho : OkR x) (hpp : x.port ≤ 7) :
    SCall Γ 65 #[(.agg x.cells.toArray)] L (fun v L' => v = .string (wordAt x 5) ∧ L' = L) := by
  have hcd := ho.code
  have had := ho.ad
  have hda := ho.data
  have hpo := ho.port
  have hmd := ho.md
  have code_nat : x.code = ((x.code.toNat : Nat) : Int) := by omega
  have ad_nat : x.ad = ((x.ad.toNat : Nat) : Int) := by omega
  have data_nat : x.data = ((x.data.toNat : Nat) : Int) := by omega
  have port_nat : x.port = ((x.port.toNat : Nat) : Int) := by omega
  refine SCall.enter (n := 12) (res1 2) (hP ▸ Tryd.func65) rfl rfl (by simp) (res1_ok rfl) ?_
  refine SX.seq_k fun K1 hK1 => ?_
  refine SX.region_d [some 1, some 2] rfl (fun ops hops => ?_)
  unfold Dsts at hops
  simp (maxSteps:=1000000)(dsimp:=false)(disch:=omega) only [go_sem, Φa, hP, hops]
  intro b0
  try with_reducible refine stI ?_
  try simp (maxSteps:=1000000)(dsimp:=false)(disch:=omega) only [go_sem, Φa, hP, hops]
  refine hK1 _ _ ?_
  try clear hK1 K1
  refine SX.seq_k fun K2 hK2 => ?_
  refine SX.quiet_d (hP ▸ T.mixed) (by kernel_rfl) [some 3, some 4, some 5, some 6, some 7, some 8, some 9, some 10, some 11, some 2] rfl (fun ops hops => ?_)
  unfold Dsts at hops
  simp (maxSteps:=1000000)(dsimp:=false)(disch:=omega) only [go_sem, Φa, hP, hops]
  refine ⟨_, Cell.at 0 rfl (show (Rc.cells _)[5]? = _ from rfl), ?_⟩
  try with_reducible refine stI ?_
  try simp (maxSteps:=1000000)(dsimp:=false)(disch:=omega) only [go_sem, Φa, hP, hops]
  refine ⟨_, Cell.at 0 rfl (show (Rc.cells _)[5]? = _ from rfl), ?_⟩
  try with_reducible refine stI ?_
  try simp (maxSteps:=1000000)(dsimp:=false)(disch:=omega) only [go_sem, Φa, hP, hops]
  try rw [w64 (by omega)]
  rw [show (Value.int .i64 x.port) = .int .i64 ((x.port.toNat : Nat) : Int) by rw [← port_nat]]
  refine ⟨_, Hex_spec (n := x.port.toNat) (m := 1) hP (by decide) (by decide) (by omega), ?_⟩
  try with_reducible refine stI ?_
  try simp (maxSteps:=1000000)(dsimp:=false)(disch:=omega) only [go_sem, Φa, hP, hops]
  refine And.intro (by rw [hexS_size]; decide) ?_
  try with_reducible refine stI ?_
  try simp (maxSteps:=1000000)(dsimp:=false)(disch:=omega) only [go_sem, Φa, hP, hops]
  refine ⟨_, when_spec hP (on := !decide (x.port = 0)) (s := ⟨#[110]⟩ ++ hexS x.port.toNat 1), ?_⟩
  try with_reducible refine stI ?_
  try simp (maxSteps:=1000000)(dsimp:=false)(disch:=omega) only [go_sem, Φa, hP, hops]
  refine hK2 _ _ ?_
  try clear hK2 K2
  refine SX.ret ?_
  simp only [andThen_normal, andThen_ret, andThen_exit, inBlk_normal, inBlk_ret, inBlk_exit, Nat.reduceEqDiff, if_true, if_false, ↓reduceIte, retQ_ret]
  try simp only [res0, res1, res2, res3, stK_e, go_sem, Φa, hP]
  exact ⟨_, _, Less.drop _ _, rfl, rfl, rfl⟩
set_option maxHeartbeats 1000000 in
set_option maxRecDepth 100000 in
theorem w7_spec {Γ : Ctx} (hP : Γ.P = Tryd.prog) {L : Hp} {x : Rc} (ho : OkR x) (hM : MD Γ) :
    SCall Γ 67 #[(.agg x.cells.toArray)] L (fun v L' => v = .string (wordAt x 7) ∧ L' = L) := by
  have hcd := ho.code
  have had := ho.ad
  have hda := ho.data
  have hpo := ho.port
  have hmd := ho.md
  have code_nat : x.code = ((x.code.toNat : Nat) : Int) := by omega
  have ad_nat : x.ad = ((x.ad.toNat : Nat) : Int) := by omega
  have data_nat : x.data = ((x.data.toNat : Nat) : Int) := by omega
  have port_nat : x.port = ((x.port.toNat : Nat) : Int) := by omega
  refine SCall.enter (n := 8) (res1 2) (hP ▸ Tryd.func67) rfl rfl (by simp) (res1_ok rfl) ?_
  refine SX.seq_k fun K1 hK1 => ?_
  refine SX.region_d [some 1, some 2] rfl (fun ops hops => ?_)
  unfold Dsts at hops
  simp (maxSteps:=1000000)(dsimp:=false)(disch:=omega) only [go_sem, Φa, hP, hops]
  intro b0
  try with_reducible refine stI ?_
  try simp (maxSteps:=1000000)(dsimp:=false)(disch:=omega) only [go_sem, Φa, hP, hops]
  refine hK1 _ _ ?_
  try clear hK1 K1
  refine SX.seq_k fun K2 hK2 => ?_
  refine SX.region_d [some 3, some 4, some 5, some 6, some 7, some 2] rfl (fun ops hops => ?_)
  unfold Dsts at hops
  simp (maxSteps:=1000000)(dsimp:=false)(disch:=omega) only [go_sem, Φa, hP, hops]
  refine ⟨_, Cell.at 0 rfl (show (Rc.cells _)[7]? = _ from rfl), ?_⟩
  try with_reducible refine stI ?_
  try simp (maxSteps:=1000000)(dsimp:=false)(disch:=omega) only [go_sem, Φa, hP, hops]
  rw [and3 hmd]
  try with_reducible refine stI ?_
  try simp (maxSteps:=1000000)(dsimp:=false)(disch:=omega) only [go_sem, Φa, hP, hops]
  refine ⟨_, hM _ _ (Nat.mod_lt _ (by decide)), ?_⟩
  try with_reducible refine stI ?_
  try simp (maxSteps:=1000000)(dsimp:=false)(disch:=omega) only [go_sem, Φa, hP, hops]
  refine hK2 _ _ ?_
  try clear hK2 K2
  refine SX.ret ?_
  simp only [andThen_normal, andThen_ret, andThen_exit, inBlk_normal, inBlk_ret, inBlk_exit, Nat.reduceEqDiff, if_true, if_false, ↓reduceIte, retQ_ret]
  try simp only [res0, res1, res2, res3, stK_e, go_sem, Φa, hP]
  exact ⟨_, _, Less.drop _ _, rfl, rfl, rfl⟩

def wordsC : List Value := [.func (.func 58) #[] #[], .func (.func 60) #[] #[], .func (.func 61) #[] #[], .func (.func 62) #[] #[], .func (.func 64) #[] #[], .func (.func 65) #[] #[], .func (.func 66) #[] #[], .func (.func 67) #[] #[]]
theorem wordsC_at {i : Nat} (h : i < 8) : wordsC[i]? = some (.func (.func (kAt i)) #[] #[]) := by
  match i, h with
  | 0, _ | 1, _ | 2, _ | 3, _ | 4, _ | 5, _ | 6, _ | 7, _ => rfl
theorem callable_kAt {Γ : Ctx} (hP : Γ.P = Tryd.prog) {i : Nat} (h : i < 8) : callable Γ.P (kAt i) = true := by
  match i, h with
  | 0, _ => exact hP ▸ T.callable_58
  | 1, _ => exact hP ▸ T.callable_60
  | 2, _ => exact hP ▸ T.callable_61
  | 3, _ => exact hP ▸ T.callable_62
  | 4, _ => exact hP ▸ T.callable_64
  | 5, _ => exact hP ▸ T.callable_65
  | 6, _ => exact hP ▸ T.callable_66
  | 7, _ => exact hP ▸ T.callable_67
theorem word_spec {Γ : Ctx} (hP : Γ.P = Tryd.prog) {L : Hp} {x : Rc} (ho : OkR x) (hm : mayB x = true) (hM : MD Γ) {i : Nat} (h : i < 8) : SCall Γ (kAt i) #[.agg x.cells.toArray] L (fun v L' => v = .string (wordAt x i) ∧ L' = L) := by
  simp only [mayB, Bool.and_eq_true, decide_eq_true_eq] at hm
  match i, h with
  | 0, _ => exact w0_spec hP ho hm.1.1.1
  | 1, _ => exact w1_spec hP ho
  | 2, _ => exact w2_spec hP ho
  | 3, _ => exact w3_spec hP ho
  | 4, _ => exact w4_spec hP ho
  | 5, _ => exact w5_spec hP ho hm.1.1.2
  | 6, _ => exact w6_spec hP ho
  | 7, _ => exact w7_spec hP ho hM
def accW (x : Rc) (i : Nat) : List ByteArray := ((List.range i).map (wordAt x)).filter (fun s => !decide (s = ⟨#[]⟩))
theorem accW_yes {x : Rc} {i : Nat} (h : ¬ wordAt x i = ⟨#[]⟩) : accW x (i + 1) = accW x i ++ [wordAt x i] := by
  unfold accW
  rw [List.range_succ, List.map_append, List.filter_append]
  simp [h]
theorem accW_no {x : Rc} {i : Nat} (h : wordAt x i = ⟨#[]⟩) : accW x (i + 1) = accW x i := by
  unfold accW
  rw [List.range_succ, List.map_append, List.filter_append]
  simp [h]
theorem accW_len (x : Rc) (i : Nat) : (accW x i).length ≤ i := by
  unfold accW
  exact Nat.le_trans (List.length_filter_le _ _) (by rw [List.length_map, List.length_range]; exact Nat.le_refl _)
theorem mdL_size (k : Nat) : (mdL.getD k ⟨#[]⟩).size ≤ 5 := by
  match k with
  | 0 | 1 | 2 | 3 => decide
  | k + 4 => exact Nat.zero_le _
theorem bapp_size (a b : ByteArray) : (a ++ b).size = a.size + b.size := ByteArray.size_append
theorem when_size (b : Bool) (s : ByteArray) : (whenS b s).size ≤ s.size := by unfold whenS; split; exact Nat.le_refl _; exact Nat.zero_le _
theorem wordAt_size (x : Rc) (i : Nat) : (wordAt x i).size ≤ 5 := by
  match i with
  | 0 => show (_ ++ _ : ByteArray).size ≤ 5; rw [bapp_size, hexS_size]; decide
  | 1 => show (hexS _ _).size ≤ 5; rw [hexS_size]; decide
  | 2 => show (hexS _ _).size ≤ 5; rw [hexS_size]; decide
  | 3 => exact Nat.le_trans (when_size _ _) (by decide)
  | 4 => exact Nat.le_trans (when_size _ _) (by decide)
  | 5 => exact Nat.le_trans (when_size _ _) (by rw [bapp_size, hexS_size]; decide)
  | 6 => exact Nat.le_trans (when_size _ _) (by decide)
  | n + 7 => exact mdL_size _
theorem accW_mem {x : Rc} {i : Nat} {s : ByteArray} (h : s ∈ accW x i) : s.size ≤ 5 := by
  unfold accW at h
  obtain ⟨j, _, rfl⟩ := List.mem_map.1 (List.mem_filter.1 h).1
  exact wordAt_size x j
theorem joinTail_len {sep : List UInt8} : ∀ {r : List (List UInt8)}, (∀ y ∈ r, y.length ≤ 5) → (Lib.joinTail sep r).length ≤ r.length * (sep.length + 5)
  | [], _ => Nat.zero_le _
  | y :: r, h => by
    have h1 := joinTail_len (sep := sep) (r := r) (fun z hz => h z (List.mem_cons_of_mem _ hz))
    have h2 := h y (List.mem_cons_self ..)
    simp only [Lib.joinTail, List.map_cons, List.flatten_cons, List.length_append, List.length_cons] at h1 ⊢
    rw [Nat.succ_mul]
    omega
theorem join_len {ss : List ByteArray} {sep : ByteArray} (h : ∀ s ∈ ss, s.size ≤ 5) : (Lib.join (ss.map (·.data.toList)) sep.data.toList).length ≤ 5 + ss.length * (sep.size + 5) := by
  match ss, h with
  | [], _ => rw [List.map_nil, Lib.join_nil]; exact Nat.zero_le _
  | s :: r, h =>
    rw [List.map_cons, Lib.join_cons, List.length_append]
    have h1 := h s (List.mem_cons_self ..)
    have h2 := joinTail_len (sep := sep.data.toList) (r := r.map (·.data.toList)) (fun y hy => by
      obtain ⟨z, hz, rfl⟩ := List.mem_map.1 hy
      exact h z (List.mem_cons_of_mem _ hz))
    have h4 : sep.data.toList.length = sep.size := Array.length_toList
    have h3 : s.data.toList.length ≤ 5 := by rw [Array.length_toList]; exact h1
    rw [List.length_map, h4] at h2
    rw [List.length_cons, Nat.succ_mul]
    omega
def lineS (x : Rc) : ByteArray := joinS (accW x 8) ⟨#[32]⟩
theorem lineS_size (x : Rc) : (lineS x).size ≤ 53 := by
  have h := join_len (ss := accW x 8) (sep := ⟨#[32]⟩) (fun s hs => accW_mem hs)
  have h1 := accW_len x 8
  have h2 : (⟨#[32]⟩ : ByteArray).size = 1 := rfl
  rw [h2] at h
  show (Lib.join _ _).toArray.size ≤ 53
  rw [List.size_toArray]
  have : (accW x 8).length * (1 + 5) ≤ 8 * 6 := Nat.mul_le_mul h1 (Nat.le_refl _)
  omega
theorem less_ins1 {a : Slot} {L : Hp} : Less (a :: L) (a :: none :: L) := (Less.none _).trans (Less.perm (List.Perm.swap _ _ _))
set_option maxHeartbeats 1000000 in
set_option maxRecDepth 100000 in
theorem words_spec {Γ : Ctx} (hP : Γ.P = Tryd.prog) {L : Hp}  :
    SCall Γ 47 #[] L (fun v L' => ∃ g, v = .slice (some ⟨g, 0, none⟩) 8 8 ∧ L' = some (g, .cells wordsC.toArray 82 (0, 0)) :: L) := by
  refine SCall.enter (n := 10) (res1 0) (hP ▸ Tryd.func47) rfl rfl (by simp) (res1_ok rfl) ?_
  refine SX.seq_k fun K1 hK1 => ?_
  refine SX.region_d [some 0] rfl (fun ops hops => ?_)
  unfold Dsts at hops
  simp (maxSteps:=1000000)(dsimp:=false)(disch:=omega) only [go_sem, Φa, hP, hops]
  refine hK1 _ _ ?_
  try clear hK1 K1
  refine SX.seq_k fun K2 hK2 => ?_
  refine SX.region_d [some 1, some 2, some 3, some 4, some 5, some 6, some 7, some 8, some 9, some 0] rfl (fun ops hops => ?_)
  unfold Dsts at hops
  simp (maxSteps:=1000000)(dsimp:=false)(disch:=omega) only [go_sem, Φa, hP, hops]
  intro g1
  try with_reducible refine stI ?_
  try simp (maxSteps:=1000000)(dsimp:=false)(disch:=omega) only [go_sem, Φa, hP, hops]
  refine hK2 _ _ ?_
  try clear hK2 K2
  refine SX.ret ?_
  simp only [andThen_normal, andThen_ret, andThen_exit, inBlk_normal, inBlk_ret, inBlk_exit, Nat.reduceEqDiff, if_true, if_false, ↓reduceIte, retQ_ret]
  try simp only [res0, res1, res2, res3, stK_e, go_sem, Φa, hP]
  exact ⟨_, _, Less.refl _, rfl, g1, rfl, rfl⟩
set_option maxHeartbeats 1000000 in
set_option maxRecDepth 100000 in
theorem line_spec {Γ : Ctx} (hP : Γ.P = Tryd.prog) {L : Hp} {x : Rc} (ho : OkR x) (hm : mayB x = true) (hM : MD Γ) :
    SCall Γ 29 #[(.agg x.cells.toArray)] L (fun v L' => v = .string (lineS x) ∧ L' = L) := by
  refine SCall.enter (n := 26) (res1 2) (hP ▸ Tryd.func29) rfl rfl (by simp) (res1_ok rfl) ?_
  refine SX.seq_k fun K1 hK1 => ?_
  refine SX.region_d [some 1, some 2] rfl (fun ops hops => ?_)
  unfold Dsts at hops
  simp (maxSteps:=1000000)(dsimp:=false)(disch:=omega) only [go_sem, Φa, hP, hops]
  intro b0
  try with_reducible refine stI ?_
  try simp (maxSteps:=1000000)(dsimp:=false)(disch:=omega) only [go_sem, Φa, hP, hops]
  refine hK1 _ _ ?_
  try clear hK1 K1
  refine SX.seq_k fun K2 hK2 => ?_
  refine SX.region_d [some 3] rfl (fun ops hops => ?_)
  unfold Dsts at hops
  simp (maxSteps:=1000000)(dsimp:=false)(disch:=omega) only [go_sem, Φa, hP, hops]
  refine hK2 _ _ ?_
  try clear hK2 K2
  refine SX.seq_k fun K3 hK3 => ?_
  refine SX.seq_k fun K4 hK4 => ?_
  refine SX.less less_ins1 ?_
  refine SX.region_d [some 7, some 8, some 9] rfl (fun ops hops => ?_)
  unfold Dsts at hops
  simp (maxSteps:=1000000)(dsimp:=false)(disch:=omega) only [go_sem, Φa, hP, hops]
  refine SCall.mono (words_spec hP) ?_
  rintro v_ L_ ⟨g, rfl, rfl⟩
  try with_reducible refine stI ?_
  try simp (maxSteps:=1000000)(dsimp:=false)(disch:=omega) only [go_sem, Φa, hP, hops]
  refine hK4 _ _ ?_
  try clear hK4 K4
  refine SX.block ?_
  refine SX.live [1, 3, 7, 8, 9] (fun T1 hT1 => ?_)
  simp only [forall_mem_cons', forall_mem_nil', go_sem, Φa, hP] at hT1
  obtain ⟨h1_1, h1_3, h1_7, h1_8, h1_9⟩ := hT1
  refine SX.loop_k (fun (ss : (Nat) × (Value) × (Slot)) T L' => (fun (i : Nat) (vo : Value) (so : Slot) => T 3 = vo ∧ T 9 = .int .i64 (i : Int) ∧ T 1 = T1 1 ∧ T 7 = T1 7 ∧ T 8 = T1 8 ∧ L' = some (g, .cells wordsC.toArray 82 (0, 0)) :: some (b0, .cells x.cells.toArray 46 (0, 0)) :: so :: L ∧ (i ≤ 8 ∧ RowL stV 9 1 vo (accW x i) so)) (ss.1) (ss.2.1) (ss.2.2)) (fun (ss : (Nat) × (Value) × (Slot)) => (fun (i : Nat) (vo : Value) (so : Slot) => 8 - i) (ss.1) (ss.2.1) (ss.2.2)) (0, .slice none 0 0, none) ?_ ?_
  · try dsimp only
    refine ⟨?_, ?_, ?_, ?_, ?_, ?_, ?_⟩
    · first | exact h1_3 | (rw [h1_3]; rfl) | (rw [h1_3]; simp; done)
    · first | exact h1_9 | (rw [h1_9]; rfl) | (rw [h1_9]; simp; done)
    · rfl
    · rfl
    · rfl
    · rfl
    · exact ⟨Nat.zero_le _, RowL.nil _ _ _⟩
  · intro ss T2 L2 hI K5 hK5
    obtain ⟨i, vo, so⟩ := ss
    try dsimp only at hI hK5
    simp only [h1_1, h1_7, h1_8] at hI hK5
    obtain ⟨h2_3, h2_9, h2_1, h2_7, h2_8, hL2, ⟨hi, hrow⟩⟩ := hI
    replace hL2 := hL2.symm
    subst hL2
    clear h1_1 h1_3 h1_7 h1_8 h1_9 T1
    refine SX.seq_k fun K6 hK6 => ?_
    refine SX.region_d [some 10] rfl (fun ops hops => ?_)
    unfold Dsts at hops
    simp (maxSteps:=1000000)(dsimp:=false)(disch:=omega) only [go_sem, Φa, hP, h2_3, h2_9, h2_1, h2_7, h2_8, hops]
    repeat' ((first | refine And.intro (by omega) ?_ | fail); try (with_reducible refine stI ?_); try simp (maxSteps:=1000000)(dsimp:=false)(disch:=omega) only [go_sem, Φa, hP, h2_3, h2_9, h2_1, h2_7, h2_8, hops])
    refine hK6 _ _ ?_
    try clear hK6 K6
    refine SX.seq_k fun K7 hK7 => ?_
    refine SX.cond_k fun X8 Y8 hX8 hY8 => ?_
    simp (maxSteps:=1000000)(dsimp:=false)(disch:=omega) only [go_sem, Φa, hP, h2_3, h2_9, h2_1, h2_7, h2_8, condVC]
    refine ⟨fun hc10 => hX8 ?_, fun hc10 => hY8 ?_⟩
    · clear hX8 hY8 X8 Y8
      refine SX.skip ?_
      try simp only [andThen_normal, andThen_ret, andThen_exit, inBlk_normal, inBlk_ret, inBlk_exit, Nat.reduceEqDiff, if_true, if_false, ↓reduceIte]
      refine hK7 _ _ ?_
      try clear hK7 K7
      refine SX.seq_k fun K9 hK9 => ?_
      refine SX.block ?_
      refine SX.seq_k fun K10 hK10 => ?_
      have hi8 : i < 8 := by omega
      have hal := accW_len x i
      refine SX.region_d [some 11, some 12, some 5, none] rfl (fun ops hops => ?_)
      unfold Dsts at hops
      simp (maxSteps:=1000000)(dsimp:=false)(disch:=omega) only [go_sem, Φa, hP, h2_3, h2_9, h2_1, h2_7, h2_8, hops]
      refine ⟨_, Cell.at 0 rfl (wordsC_at hi8), ?_⟩
      try with_reducible refine stI ?_
      try simp (maxSteps:=1000000)(dsimp:=false)(disch:=omega) only [go_sem, Φa, hP, h2_3, h2_9, h2_1, h2_7, h2_8, hops]
      intro b5
      try with_reducible refine stI ?_
      try simp (maxSteps:=1000000)(dsimp:=false)(disch:=omega) only [go_sem, Φa, hP, h2_3, h2_9, h2_1, h2_7, h2_8, hops]
      refine ⟨0, _, _, _, rfl, (by show 1 ≤ 1; decide), .inr (by decide), ?_⟩
      try with_reducible refine stI ?_
      try simp (maxSteps:=1000000)(dsimp:=false)(disch:=omega) only [go_sem, Φa, hP, h2_3, h2_9, h2_1, h2_7, h2_8, hops]
      refine hK10 _ _ ?_
      try clear hK10 K10
      refine SX.seq_k fun K11 hK11 => ?_
      refine SX.region_d [some 13, some 14, some 15, some 16, some 6] rfl (fun ops hops => ?_)
      unfold Dsts at hops
      simp (maxSteps:=1000000)(dsimp:=false)(disch:=omega) only [go_sem, Φa, hP, h2_3, h2_9, h2_1, h2_7, h2_8, hops]
      refine ⟨_, Cell.at 0 rfl rfl, ?_⟩
      try with_reducible refine stI ?_
      try simp (maxSteps:=1000000)(dsimp:=false)(disch:=omega) only [go_sem, Φa, hP, h2_3, h2_9, h2_1, h2_7, h2_8, hops]
      refine ⟨_, Cell.at 2 rfl (show (Rc.cells _)[0]? = _ from rfl), _, Cell.at 2 rfl (show (Rc.cells _)[1]? = _ from rfl), _, Cell.at 2 rfl (show (Rc.cells _)[2]? = _ from rfl), _, Cell.at 2 rfl (show (Rc.cells _)[3]? = _ from rfl), _, Cell.at 2 rfl (show (Rc.cells _)[4]? = _ from rfl), _, Cell.at 2 rfl (show (Rc.cells _)[5]? = _ from rfl), _, Cell.at 2 rfl (show (Rc.cells _)[6]? = _ from rfl), _, Cell.at 2 rfl (show (Rc.cells _)[7]? = _ from rfl), ?_⟩
      try with_reducible refine stI ?_
      try simp (maxSteps:=1000000)(dsimp:=false)(disch:=omega) only [go_sem, Φa, hP, h2_3, h2_9, h2_1, h2_7, h2_8, hops]
      refine ⟨(by rw [← hP]; exact callable_kAt hP hi8), ?_⟩
      try with_reducible refine stI ?_
      try simp (maxSteps:=1000000)(dsimp:=false)(disch:=omega) only [go_sem, Φa, hP, h2_3, h2_9, h2_1, h2_7, h2_8, hops]
      refine SCall.mono (word_spec hP ho hm hM hi8) ?_
      rintro v_ L_ ⟨hv_, hL_⟩
      rw [hv_, hL_]
      clear hv_ hL_ v_ L_
      try with_reducible refine stI ?_
      try simp (maxSteps:=1000000)(dsimp:=false)(disch:=omega) only [go_sem, Φa, hP, h2_3, h2_9, h2_1, h2_7, h2_8, hops]
      refine hK11 _ _ ?_
      try clear hK11 K11
      refine SX.live [1, 3, 6, 7, 8, 9] (fun T3 hT3 => ?_)
      simp only [forall_mem_cons', forall_mem_nil', go_sem, Φa, hP, h2_3, h2_9, h2_1, h2_7, h2_8] at hT3
      obtain ⟨h3_1, h3_3, h3_6, h3_7, h3_8, h3_9⟩ := hT3
      clear h2_3 h2_9 h2_1 h2_7 h2_8 T2
      refine SX.seq_k fun K12 hK12 => ?_
      refine SX.region_d [some 17, some 18] rfl (fun ops hops => ?_)
      unfold Dsts at hops
      simp (maxSteps:=1000000)(dsimp:=false)(disch:=omega) only [go_sem, Φa, hP, h3_1, h3_3, h3_6, h3_7, h3_8, h3_9, hops]
      repeat' ((first | refine And.intro (by omega) ?_ | fail); try (with_reducible refine stI ?_); try simp (maxSteps:=1000000)(dsimp:=false)(disch:=omega) only [go_sem, Φa, hP, h3_1, h3_3, h3_6, h3_7, h3_8, h3_9, hops])
      refine hK12 _ _ ?_
      try clear hK12 K12
      refine SX.cond_k fun X13 Y13 hX13 hY13 => ?_
      simp (maxSteps:=1000000)(dsimp:=false)(disch:=omega) only [go_sem, Φa, hP, h3_1, h3_3, h3_6, h3_7, h3_8, h3_9, condVC]
      refine ⟨fun hc18 => hX13 ?_, fun hc18 => hY13 ?_⟩
      · clear hX13 hY13 X13 Y13
        obtain ⟨oA, oC, rfl, _, _⟩ := Row.form hrow
        refine SX.region_d [some 19, some 20, some 21, some 22, some 3] rfl (fun ops hops => ?_)
        unfold Dsts at hops
        simp (maxSteps:=1000000)(dsimp:=false)(disch:=omega) only [go_sem, Φa, hP, h3_1, h3_3, h3_6, h3_7, h3_8, h3_9, hops]
        intro g22
        try with_reducible refine stI ?_
        try simp (maxSteps:=1000000)(dsimp:=false)(disch:=omega) only [go_sem, Φa, hP, h3_1, h3_3, h3_6, h3_7, h3_8, h3_9, hops]
        refine YAppend.rowL (f := stV) (x := wordAt x i) (i := 3) (z := [.string ⟨#[]⟩]) (hP ▸ T.elS_75) (hP ▸ T.zr_9) rfl rfl rfl rfl hrow (by omega) (by decide) ?_
        intro v' s' hrow'
        obtain ⟨nA, nC, rfl, _, _⟩ := Row.form hrow'
        try with_reducible refine stI ?_
        try simp (maxSteps:=1000000)(dsimp:=false)(disch:=omega) only [go_sem, Φa, hP, h3_1, h3_3, h3_6, h3_7, h3_8, h3_9, hops]
        refine hK9 _ _ ?_
        try clear hK9 K9
        refine SX.region_d [some 23, some 9] rfl (fun ops hops => ?_)
        unfold Dsts at hops
        simp (maxSteps:=1000000)(dsimp:=false)(disch:=omega) only [go_sem, Φa, hP, h3_1, h3_3, h3_6, h3_7, h3_8, h3_9, hops]
        repeat' ((first | refine And.intro (by omega) ?_ | fail); try (with_reducible refine stI ?_); try simp (maxSteps:=1000000)(dsimp:=false)(disch:=omega) only [go_sem, Φa, hP, h3_1, h3_3, h3_6, h3_7, h3_8, h3_9, hops])
        refine hK5 (i + 1, .slice nA (accW x i ++ [wordAt x i]).length nC, s') _ (some (g, .cells wordsC.toArray 82 (0, 0)) :: some (b0, .cells x.cells.toArray 46 (0, 0)) :: s' :: L) _ (by first | exact Less.refl _ | exact Less.drop _ _ | exact Less.drops (Less.drop _ _) | exact Less.drops (Less.drops (Less.drop _ _)) | exact Less.drops (Less.drops (Less.drops (Less.drop _ _))) | exact Less.drops (Less.drops (Less.drops (Less.drops (Less.drop _ _))))) ?_ ?_
        · try dsimp only
          refine ⟨?_, ?_, ?_, ?_, ?_, ?_, ?_⟩
          · simp (maxSteps:=1000000)(dsimp:=false)(disch:=omega) only [go_sem, Φa, hP, h3_1, h3_3, h3_6, h3_7, h3_8, h3_9]
            first | done | rfl | skip
          · simp (maxSteps:=1000000)(dsimp:=false)(disch:=omega) only [go_sem, Φa, hP, h3_1, h3_3, h3_6, h3_7, h3_8, h3_9]
            first | done | rfl | skip
          · simp (maxSteps:=1000000)(dsimp:=false)(disch:=omega) only [go_sem, Φa, hP, h3_1, h3_3, h3_6, h3_7, h3_8, h3_9]
          · simp (maxSteps:=1000000)(dsimp:=false)(disch:=omega) only [go_sem, Φa, hP, h3_1, h3_3, h3_6, h3_7, h3_8, h3_9]
          · simp (maxSteps:=1000000)(dsimp:=false)(disch:=omega) only [go_sem, Φa, hP, h3_1, h3_3, h3_6, h3_7, h3_8, h3_9]
          · rfl
          · exact ⟨by omega, by rw [accW_yes (by simpa using hc18)]; exact hrow'⟩
        · (try dsimp only); omega
      · clear hX13 hY13 X13 Y13
        refine SX.skip ?_
        try simp only [andThen_normal, andThen_ret, andThen_exit, inBlk_normal, inBlk_ret, inBlk_exit, Nat.reduceEqDiff, if_true, if_false, ↓reduceIte]
        refine hK9 _ _ ?_
        try clear hK9 K9
        refine SX.region_d [some 23, some 9] rfl (fun ops hops => ?_)
        unfold Dsts at hops
        simp (maxSteps:=1000000)(dsimp:=false)(disch:=omega) only [go_sem, Φa, hP, h3_1, h3_3, h3_6, h3_7, h3_8, h3_9, hops]
        repeat' ((first | refine And.intro (by omega) ?_ | fail); try (with_reducible refine stI ?_); try simp (maxSteps:=1000000)(dsimp:=false)(disch:=omega) only [go_sem, Φa, hP, h3_1, h3_3, h3_6, h3_7, h3_8, h3_9, hops])
        refine hK5 (i + 1, vo, so) _ (some (g, .cells wordsC.toArray 82 (0, 0)) :: some (b0, .cells x.cells.toArray 46 (0, 0)) :: so :: L) _ (by first | exact Less.refl _ | exact Less.drop _ _ | exact Less.drops (Less.drop _ _) | exact Less.drops (Less.drops (Less.drop _ _)) | exact Less.drops (Less.drops (Less.drops (Less.drop _ _))) | exact Less.drops (Less.drops (Less.drops (Less.drops (Less.drop _ _))))) ?_ ?_
        · try dsimp only
          refine ⟨?_, ?_, ?_, ?_, ?_, ?_, ?_⟩
          · simp (maxSteps:=1000000)(dsimp:=false)(disch:=omega) only [go_sem, Φa, hP, h3_1, h3_3, h3_6, h3_7, h3_8, h3_9]
            first | done | rfl | skip
          · simp (maxSteps:=1000000)(dsimp:=false)(disch:=omega) only [go_sem, Φa, hP, h3_1, h3_3, h3_6, h3_7, h3_8, h3_9]
            first | done | rfl | skip
          · simp (maxSteps:=1000000)(dsimp:=false)(disch:=omega) only [go_sem, Φa, hP, h3_1, h3_3, h3_6, h3_7, h3_8, h3_9]
          · simp (maxSteps:=1000000)(dsimp:=false)(disch:=omega) only [go_sem, Φa, hP, h3_1, h3_3, h3_6, h3_7, h3_8, h3_9]
          · simp (maxSteps:=1000000)(dsimp:=false)(disch:=omega) only [go_sem, Φa, hP, h3_1, h3_3, h3_6, h3_7, h3_8, h3_9]
          · rfl
          · exact ⟨by omega, by rw [accW_no (by simpa using hc18)]; exact hrow⟩
        · (try dsimp only); omega
    · clear hX8 hY8 X8 Y8
      refine SX.exit ?_
      try simp only [andThen_normal, andThen_ret, andThen_exit, inBlk_normal, inBlk_ret, inBlk_exit, Nat.reduceEqDiff, if_true, if_false, ↓reduceIte]
      refine hK3 _ _ ?_
      try clear hK3 K3
      refine SX.seq_k fun K14 hK14 => ?_
      obtain rfl : i = 8 := by omega
      have hal := accW_len x 8
      have hjl := join_len (ss := accW x 8) (sep := ⟨#[32]⟩) (fun s hs => accW_mem hs)
      have hj2 : (accW x 8).length * ((⟨#[32]⟩ : ByteArray).size + 5) ≤ 8 * 6 := Nat.mul_le_mul hal (by decide)
      refine SX.region_d [some 24, some 25, some 2] rfl (fun ops hops => ?_)
      unfold Dsts at hops
      simp (maxSteps:=1000000)(dsimp:=false)(disch:=omega) only [go_sem, Φa, hP, h2_3, h2_9, h2_1, h2_7, h2_8, hops]
      refine SCall.mono (Join_spec (i := 2) hP rfl hrow (by omega) (by omega)) ?_
      rintro v_ L_ ⟨hv_, hL_⟩
      rw [hv_, hL_]
      clear hv_ hL_ v_ L_
      try with_reducible refine stI ?_
      try simp (maxSteps:=1000000)(dsimp:=false)(disch:=omega) only [go_sem, Φa, hP, h2_3, h2_9, h2_1, h2_7, h2_8, hops]
      refine hK14 _ _ ?_
      try clear hK14 K14
      refine SX.ret ?_
      simp only [andThen_normal, andThen_ret, andThen_exit, inBlk_normal, inBlk_ret, inBlk_exit, Nat.reduceEqDiff, if_true, if_false, ↓reduceIte, retQ_ret]
      try simp only [res0, res1, res2, res3, stK_e, go_sem, Φa, hP, h2_3, h2_9, h2_1, h2_7, h2_8]
      exact ⟨_, _, Less.drops (Less.drops (Less.drop _ _)), rfl, rfl, rfl⟩

end Go.Proofs.YtcenlgofldnfcaaDoor
set_option linter.unusedVariables false
set_option linter.unusedSimpArgs false
namespace Go.Proofs.YtcenlgofldnfcaaDoor
open Go.RowKit Go.SX Go.Proofs

/-! Print. -/
def linesI (l : List Rc) : List Int := l.flatMap fun x => nums8 (lineS x) ++ [10]
def printP (l : List Rc) : ByteArray × Int := if chkL l = 0 then (if 65536 < (linesI l).length then (⟨#[]⟩, 2) else (txt (linesI l), 0)) else (⟨#[]⟩, chkL l)
theorem linesI_take {l : List Rc} {k : Nat} (h : k < l.length) : linesI (l.take (k + 1)) = linesI (l.take k) ++ nums8 (lineS (l.getD k default) ++ ⟨#[10]⟩) := by
  have e : nums8 (lineS (l.getD k default) ++ ⟨#[10]⟩) = nums8 (lineS (l.getD k default)) ++ [10] := by
    simp [nums8]
  rw [List.take_add_one, getD_get (d := default) h, e]
  unfold linesI
  rw [List.flatMap_append]
  simp
theorem linesI_le (l : List Rc) (k : Nat) : (linesI (l.take k)).length ≤ (linesI l).length := by
  conv => rhs; rw [← List.take_append_drop k l]
  unfold linesI
  rw [List.flatMap_append, List.length_append]
  omega
theorem linesI_byte (l : List Rc) : Byte (linesI l) := fun x hx => by
  obtain ⟨r, _, hr⟩ := List.mem_flatMap.1 hx
  rcases List.mem_append.1 hr with h | h
  · exact nums8_byte _ x h
  · rw [List.mem_singleton.1 h]; omega
theorem getD_mem {α : Type} [Inhabited α] {l : List α} {k : Nat} (h : k < l.length) : l.getD k default ∈ l := List.mem_of_getElem? (getD_get h)
set_option maxHeartbeats 1000000 in
set_option maxRecDepth 100000 in
theorem Print_core {Γ : Ctx} (hP : Γ.P = Tryd.prog) {L : Hp} (hO : Γ.own = []) {v : Value} {l : List Rc} (hl : SlC (Cell Γ []) v l) (ho : ∀ r ∈ l, OkR r) (hM : MD Γ) :
    SCall Γ 12 #[v] ([]) (fun v' L' => v' = .tuple #[.string (printP l).1, .int .i64 (printP l).2] ∧ L' = []) := by
  obtain ⟨A, c, rfl, hc⟩ := Sl.shape hl
  obtain ⟨a1, e1, _, hA⟩ := Sl.at1 hl
  refine SCall.enter (n := 27) (res2 2 3) (hP ▸ Tryd.func12) rfl rfl (by simp) (res2_ok rfl) ?_
  refine SX.seq_k fun K1 hK1 => ?_
  refine SX.region_d [some 2, some 3] rfl (fun ops hops => ?_)
  unfold Dsts at hops
  simp (maxSteps := 1000000) (dsimp := false) (disch := omega) only [go_sem, ia_someH, hP, hops]
  refine hK1 _ _ ?_
  try clear hK1 K1
  refine SX.seq_k fun K2 hK2 => ?_
  refine SX.seq_k fun K3 hK3 => ?_
  refine SX.region_d [some 8, some 9, some 4] rfl (fun ops hops => ?_)
  unfold Dsts at hops
  simp (maxSteps := 1000000) (dsimp := false) (disch := omega) only [go_sem, ia_someH, hP, hops]
  refine SCall.mono (check_spec hP hl) ?_
  rintro v_ L_ ⟨hv_, hL_⟩
  rw [hv_, hL_]
  clear hv_ hL_ v_ L_
  try with_reducible refine stI ?_
  try simp (maxSteps := 1000000) (dsimp := false) (disch := omega) only [go_sem, ia_someH, hP, hops]
  refine hK3 _ _ ?_
  try clear hK3 K3
  refine SX.seq_k fun K4 hK4 => ?_
  refine SX.region_d [some 10, some 11] rfl (fun ops hops => ?_)
  unfold Dsts at hops
  simp (maxSteps := 1000000) (dsimp := false) (disch := omega) only [go_sem, ia_someH, hP, hops]
  repeat' ((first | refine And.intro (by omega) ?_ | fail); try (with_reducible refine stI ?_); try simp (maxSteps := 1000000) (dsimp := false) (disch := omega) only [go_sem, ia_someH, hP, hops])
  refine hK4 _ _ ?_
  try clear hK4 K4
  refine SX.cond_k fun X5 Y5 hX5 hY5 => ?_
  simp (maxSteps := 1000000) (dsimp := false) (disch := omega) only [go_sem, ia_someH, hP, condVC]
  refine ⟨fun hc11 => hX5 ?_, fun hc11 => hY5 ?_⟩
  · clear hX5 hY5 X5 Y5
    refine SX.seq_k fun K6 hK6 => ?_
    refine SX.region_d [some 12, some 2, some 3] rfl (fun ops hops => ?_)
    unfold Dsts at hops
    simp (maxSteps := 1000000) (dsimp := false) (disch := omega) only [go_sem, ia_someH, hP, hops]
    refine hK6 _ _ ?_
    try clear hK6 K6
    refine SX.ret ?_
    simp only [andThen_normal, andThen_ret, andThen_exit, inBlk_normal, inBlk_ret, inBlk_exit, Nat.reduceEqDiff, if_true, if_false, ↓reduceIte, retQ_ret]
    try simp only [res0, res1, res2, res3, stK_e, go_sem, ia_someH, hP]
    refine ⟨_, _, Less.refl _, rfl, ?_, rfl⟩
    unfold printP
    rw [if_neg (by simpa using hc11)]
  · clear hX5 hY5 X5 Y5
    refine SX.skip ?_
    try simp only [andThen_normal, andThen_ret, andThen_exit, inBlk_normal, inBlk_ret, inBlk_exit, Nat.reduceEqDiff, if_true, if_false, ↓reduceIte]
    refine hK2 _ _ ?_
    try clear hK2 K2
    refine SX.seq_k fun K7 hK7 => ?_
    refine SX.region_d [some 5] rfl (fun ops hops => ?_)
    unfold Dsts at hops
    simp (maxSteps := 1000000) (dsimp := false) (disch := omega) only [go_sem, ia_someH, hP, hops]
    intro b5
    try with_reducible refine stI ?_
    try simp (maxSteps := 1000000) (dsimp := false) (disch := omega) only [go_sem, ia_someH, hP, hops]
    refine hK7 _ _ ?_
    try clear hK7 K7
    refine SX.seq_k fun K8 hK8 => ?_
    refine SX.seq_k fun K9 hK9 => ?_
    have hc0 : chkL l = 0 := by simpa using hc11
    obtain ⟨hll, hlm⟩ := chkL_zero hc0
    refine SX.less less_ins1 ?_
    refine SX.region_d [some 13, some 14, some 15] rfl (fun ops hops => ?_)
    unfold Dsts at hops
    simp (maxSteps := 1000000) (dsimp := false) (disch := omega) only [go_sem, ia_someH, hP, hops]
    repeat' ((first | refine And.intro (by omega) ?_ | fail); try (with_reducible refine stI ?_); try simp (maxSteps := 1000000) (dsimp := false) (disch := omega) only [go_sem, ia_someH, hP, hops])
    refine hK9 _ _ ?_
    try clear hK9 K9
    refine SX.live [5, 13, 14, 15] (fun T1 hT1 => ?_)
    simp only [forall_mem_cons', forall_mem_nil', go_sem, ia_someH, hP] at hT1
    obtain ⟨h1_5, h1_13, h1_14, h1_15⟩ := hT1
    refine SX.block ?_
    refine SX.live [5, 13, 14, 15] (fun T2 hT2 => ?_)
    simp only [forall_mem_cons', forall_mem_nil', go_sem, ia_someH, hP, h1_5, h1_13, h1_14, h1_15] at hT2
    obtain ⟨h2_5, h2_13, h2_14, h2_15⟩ := hT2
    clear h1_5 h1_13 h1_14 h1_15 T1
    refine SX.loop_k (fun (ss : (Nat) × (Value) × (Value) × (Slot)) T L' => (fun (k : Nat) (p : Value) (vb : Value) (sb : Slot) => T 15 = .int .i64 (k : Int) ∧ T 5 = T2 5 ∧ T 13 = T2 13 ∧ T 14 = T2 14 ∧ L' = BD b5 p vb :: sb :: [] ∧ (k ≤ l.length ∧ Ptr b5 p ∧ RowI .u8 5 vb (linesI (l.take k)) sb ∧ (linesI (l.take k)).length ≤ 65536)) (ss.1) (ss.2.1) (ss.2.2.1) (ss.2.2.2)) (fun (ss : (Nat) × (Value) × (Value) × (Slot)) => (fun (k : Nat) (p : Value) (vb : Value) (sb : Slot) => l.length - k) (ss.1) (ss.2.1) (ss.2.2.1) (ss.2.2.2)) (0, .pointer none, .slice none 0 0, none) ?_ ?_
    · try dsimp only
      refine ⟨?_, ?_, ?_, ?_, ?_, ?_⟩
      · first | exact h2_15 | (rw [h2_15]; rfl) | (rw [h2_15]; simp; done)
      · rfl
      · rfl
      · rfl
      · rfl
      · exact ⟨Nat.zero_le _, .inl rfl, Row.nil _ _, Nat.zero_le _⟩
    · intro ss T3 L3 hI K10 hK10
      obtain ⟨k, p, vb, sb⟩ := ss
      try dsimp only at hI hK10
      simp only [h2_5, h2_13, h2_14] at hI hK10
      obtain ⟨h3_15, h3_5, h3_13, h3_14, hL3, ⟨hk, hp, hrow, hlen⟩⟩ := hI
      replace hL3 := hL3.symm
      subst hL3
      clear h2_5 h2_13 h2_14 h2_15 T2
      refine SX.seq_k fun K11 hK11 => ?_
      refine SX.region_d [some 16] rfl (fun ops hops => ?_)
      unfold Dsts at hops
      simp (maxSteps := 1000000) (dsimp := false) (disch := omega) only [go_sem, ia_someH, hP, h3_15, h3_5, h3_13, h3_14, hops]
      repeat' ((first | refine And.intro (by omega) ?_ | fail); try (with_reducible refine stI ?_); try simp (maxSteps := 1000000) (dsimp := false) (disch := omega) only [go_sem, ia_someH, hP, h3_15, h3_5, h3_13, h3_14, hops])
      refine hK11 _ _ ?_
      try clear hK11 K11
      refine SX.seq_k fun K12 hK12 => ?_
      refine SX.cond_k fun X13 Y13 hX13 hY13 => ?_
      simp (maxSteps := 1000000) (dsimp := false) (disch := omega) only [go_sem, ia_someH, hP, h3_15, h3_5, h3_13, h3_14, condVC]
      refine ⟨fun hc16 => hX13 ?_, fun hc16 => hY13 ?_⟩
      · clear hX13 hY13 X13 Y13
        refine SX.skip ?_
        try simp only [andThen_normal, andThen_ret, andThen_exit, inBlk_normal, inBlk_ret, inBlk_exit, Nat.reduceEqDiff, if_true, if_false, ↓reduceIte]
        refine hK12 _ _ ?_
        try clear hK12 K12
        refine SX.seq_k fun K14 hK14 => ?_
        refine SX.block ?_
        refine SX.seq_k fun K15 hK15 => ?_
        have hkl : k < l.length := by omega
        have hck := hA k _ (getD_get (d := default) hkl)
        have hok := ho _ (getD_mem hkl)
        have hmk := hlm k hkl
        refine SX.region_d [some 17, some 18, some 7, none] rfl (fun ops hops => ?_)
        unfold Dsts at hops
        simp (maxSteps := 1000000) (dsimp := false) (disch := omega) only [go_sem, ia_someH, hP, h3_15, h3_5, h3_13, h3_14, hops, ia_at e1]
        refine ⟨_, Cell.any (hck 0 _ rfl), _, Cell.any (hck 1 _ rfl), _, Cell.any (hck 2 _ rfl), _, Cell.any (hck 3 _ rfl), _, Cell.any (hck 4 _ rfl), _, Cell.any (hck 5 _ rfl), _, Cell.any (hck 6 _ rfl), _, Cell.any (hck 7 _ rfl), ?_⟩
        try with_reducible refine stI ?_
        try simp (maxSteps := 1000000) (dsimp := false) (disch := omega) only [go_sem, ia_someH, hP, h3_15, h3_5, h3_13, h3_14, hops, ia_at e1]
        intro b7
        try with_reducible refine stI ?_
        try simp (maxSteps := 1000000) (dsimp := false) (disch := omega) only [go_sem, ia_someH, hP, h3_15, h3_5, h3_13, h3_14, hops, ia_at e1]
        refine ⟨0, _, _, _, rfl, (by show 8 ≤ 8; decide), .inr (by decide), ?_⟩
        try with_reducible refine stI ?_
        try simp (maxSteps := 1000000) (dsimp := false) (disch := omega) only [go_sem, ia_someH, hP, h3_15, h3_5, h3_13, h3_14, hops, ia_at e1]
        refine hK15 _ _ ?_
        try clear hK15 K15
        refine SX.seq_k fun K16 hK16 => ?_
        refine SX.region_d [some 19, some 20, some 21, some 22] rfl (fun ops hops => ?_)
        unfold Dsts at hops
        simp (maxSteps := 1000000) (dsimp := false) (disch := omega) only [go_sem, ia_someH, hP, h3_15, h3_5, h3_13, h3_14, hops]
        rw [show (#[Value.int .u8 (l.getD k default).code, .int .u16 (l.getD k default).ad, .int .u8 (l.getD k default).data, .bool (l.getD k default).rd, .bool (l.getD k default).wr, .int .u8 (l.getD k default).port, .bool (l.getD k default).q, .int .u8 (l.getD k default).md] : Array Value) = (l.getD k default).cells.toArray from rfl]
        refine ⟨_, Cell.at 0 rfl (show (Rc.cells _)[0]? = _ from rfl), _, Cell.at 0 rfl (show (Rc.cells _)[1]? = _ from rfl), _, Cell.at 0 rfl (show (Rc.cells _)[2]? = _ from rfl), _, Cell.at 0 rfl (show (Rc.cells _)[3]? = _ from rfl), _, Cell.at 0 rfl (show (Rc.cells _)[4]? = _ from rfl), _, Cell.at 0 rfl (show (Rc.cells _)[5]? = _ from rfl), _, Cell.at 0 rfl (show (Rc.cells _)[6]? = _ from rfl), _, Cell.at 0 rfl (show (Rc.cells _)[7]? = _ from rfl), ?_⟩
        try with_reducible refine stI ?_
        try simp (maxSteps := 1000000) (dsimp := false) (disch := omega) only [go_sem, ia_someH, hP, h3_15, h3_5, h3_13, h3_14, hops]
        refine SCall.mono (line_spec hP hok hmk hM) ?_
        rintro v_ L_ ⟨hv_, hL_⟩
        rw [hv_, hL_]
        clear hv_ hL_ v_ L_
        have hsz := lineS_size (l.getD k default)
        have hlt := linesI_take hkl
        generalize hls : lineS (l.getD k default) = ls at hsz hlt ⊢
        try with_reducible refine stI ?_
        try simp (maxSteps := 1000000) (dsimp := false) (disch := omega) only [go_sem, ia_someH, hP, h3_15, h3_5, h3_13, h3_14, hops]
        refine And.intro (by omega) ?_
        try with_reducible refine stI ?_
        try simp (maxSteps := 1000000) (dsimp := false) (disch := omega) only [go_sem, ia_someH, hP, h3_15, h3_5, h3_13, h3_14, hops]
        refine SCall.mono (SCall.pre (Less.drop _ _) (WriteString_spec (s := ls ++ ⟨#[10]⟩) hP hp hrow (by rw [bapp_size]; have : (⟨#[10]⟩ : ByteArray).size = 1 := rfl; omega))) ?_
        rintro v_ L_ ⟨rfl, vb', sb', rfl, hrow'⟩
        try with_reducible refine stI ?_
        try simp (maxSteps := 1000000) (dsimp := false) (disch := omega) only [go_sem, ia_someH, hP, h3_15, h3_5, h3_13, h3_14, hops]
        refine hK16 _ _ ?_
        try clear hK16 K16
        refine SX.seq_k fun K17 hK17 => ?_
        refine SX.region_d [some 23, some 24] rfl (fun ops hops => ?_)
        unfold Dsts at hops
        simp (maxSteps := 1000000) (dsimp := false) (disch := omega) only [go_sem, ia_someH, hP, h3_15, h3_5, h3_13, h3_14, hops]
        refine SCall.mono (Len_spec hP hrow') ?_
        rintro v_ L_ ⟨hv_, hL_⟩
        rw [hv_, hL_]
        clear hv_ hL_ v_ L_
        try with_reducible refine stI ?_
        try simp (maxSteps := 1000000) (dsimp := false) (disch := omega) only [go_sem, ia_someH, hP, h3_15, h3_5, h3_13, h3_14, hops]
        refine hK17 _ _ ?_
        try clear hK17 K17
        refine SX.live [5, 13, 14, 15, 24] (fun T4 hT4 => ?_)
        simp only [forall_mem_cons', forall_mem_nil', go_sem, ia_someH, hP, h3_15, h3_5, h3_13, h3_14] at hT4
        obtain ⟨h4_5, h4_13, h4_14, h4_15, h4_24⟩ := hT4
        clear h3_15 h3_5 h3_13 h3_14 T3
        refine SX.cond_k fun X18 Y18 hX18 hY18 => ?_
        simp (maxSteps := 1000000) (dsimp := false) (disch := omega) only [go_sem, ia_someH, hP, h4_5, h4_13, h4_14, h4_15, h4_24, condVC]
        refine ⟨fun hc24 => hX18 ?_, fun hc24 => hY18 ?_⟩
        · clear hX18 hY18 X18 Y18
          refine SX.seq_k fun K19 hK19 => ?_
          refine SX.region_d [some 2, some 3] rfl (fun ops hops => ?_)
          unfold Dsts at hops
          simp (maxSteps := 1000000) (dsimp := false) (disch := omega) only [go_sem, ia_someH, hP, h4_5, h4_13, h4_14, h4_15, h4_24, hops]
          refine hK19 _ _ ?_
          try clear hK19 K19
          refine SX.ret ?_
          simp only [andThen_normal, andThen_ret, andThen_exit, inBlk_normal, inBlk_ret, inBlk_exit, Nat.reduceEqDiff, if_true, if_false, ↓reduceIte, retQ_ret]
          try simp only [res0, res1, res2, res3, stK_e, go_sem, ia_someH, hP, h4_5, h4_13, h4_14, h4_15, h4_24]
          refine ⟨_, [], Less.nil _, rfl, ?_, rfl⟩
          unfold printP
          rw [if_pos hc0, if_pos (by have := linesI_le l (k + 1); rw [hlt] at this; omega)]
        · clear hX18 hY18 X18 Y18
          refine SX.skip ?_
          try simp only [andThen_normal, andThen_ret, andThen_exit, inBlk_normal, inBlk_ret, inBlk_exit, Nat.reduceEqDiff, if_true, if_false, ↓reduceIte]
          refine hK14 _ _ ?_
          try clear hK14 K14
          refine SX.region_d [some 25, some 15] rfl (fun ops hops => ?_)
          unfold Dsts at hops
          simp (maxSteps := 1000000) (dsimp := false) (disch := omega) only [go_sem, ia_someH, hP, h4_5, h4_13, h4_14, h4_15, h4_24, hops]
          repeat' ((first | refine And.intro (by omega) ?_ | fail); try (with_reducible refine stI ?_); try simp (maxSteps := 1000000) (dsimp := false) (disch := omega) only [go_sem, ia_someH, hP, h4_5, h4_13, h4_14, h4_15, h4_24, hops])
          refine hK10 (k + 1, selfP b5, vb', sb') _ (BD b5 (selfP b5) vb' :: sb' :: []) _ (by first | exact Less.refl _ | exact Less.drop _ _ | exact Less.drops (Less.drop _ _) | exact Less.drops (Less.drops (Less.drop _ _)) | exact Less.drops (Less.drops (Less.drops (Less.drop _ _))) | exact Less.drops (Less.drops (Less.drops (Less.drops (Less.drop _ _))))) ?_ ?_
          · try dsimp only
            refine ⟨?_, ?_, ?_, ?_, ?_, ?_⟩
            · simp (maxSteps := 1000000) (dsimp := false) (disch := omega) only [go_sem, ia_someH, hP, h4_5, h4_13, h4_14, h4_15, h4_24]
              first | done | rfl | skip
            · simp (maxSteps := 1000000) (dsimp := false) (disch := omega) only [go_sem, ia_someH, hP, h4_5, h4_13, h4_14, h4_15, h4_24]
            · simp (maxSteps := 1000000) (dsimp := false) (disch := omega) only [go_sem, ia_someH, hP, h4_5, h4_13, h4_14, h4_15, h4_24]
            · simp (maxSteps := 1000000) (dsimp := false) (disch := omega) only [go_sem, ia_someH, hP, h4_5, h4_13, h4_14, h4_15, h4_24]
            · rfl
            · exact ⟨by omega, .inr rfl, by rw [hlt]; exact hrow', by rw [hlt]; omega⟩
          · (try dsimp only); omega
      · clear hX13 hY13 X13 Y13
        refine SX.exit ?_
        try simp only [andThen_normal, andThen_ret, andThen_exit, inBlk_normal, inBlk_ret, inBlk_exit, Nat.reduceEqDiff, if_true, if_false, ↓reduceIte]
        refine hK8 _ _ ?_
        try clear hK8 K8
        refine SX.seq_k fun K20 hK20 => ?_
        obtain rfl : k = l.length := by omega
        rw [List.take_length] at hrow hlen
        refine SX.region_d [some 26, some 2, some 3] rfl (fun ops hops => ?_)
        unfold Dsts at hops
        simp (maxSteps := 1000000) (dsimp := false) (disch := omega) only [go_sem, ia_someH, hP, h3_15, h3_5, h3_13, h3_14, hops]
        refine SCall.mono (String_spec hP hO hp hrow (linesI_byte l)) ?_
        rintro v_ L_ ⟨rfl, rfl⟩
        try with_reducible refine stI ?_
        try simp (maxSteps := 1000000) (dsimp := false) (disch := omega) only [go_sem, ia_someH, hP, h3_15, h3_5, h3_13, h3_14, hops]
        refine hK20 _ _ ?_
        try clear hK20 K20
        refine SX.ret ?_
        simp only [andThen_normal, andThen_ret, andThen_exit, inBlk_normal, inBlk_ret, inBlk_exit, Nat.reduceEqDiff, if_true, if_false, ↓reduceIte, retQ_ret]
        try simp only [res0, res1, res2, res3, stK_e, go_sem, ia_someH, hP, h3_15, h3_5, h3_13, h3_14]
        refine ⟨_, _, Less.refl _, rfl, ?_, rfl⟩
        unfold printP
        rw [if_pos hc0, if_neg (by omega)]

theorem Print_spec {Γ : Ctx} (hP : Γ.P = Tryd.prog) {L : Hp} {v : Value} {l : List Rc} (hl : SlC (Cell Γ L) v l) (ho : ∀ r ∈ l, OkR r) (hM : MD Γ) : SCall Γ 12 #[v] L (fun v' L' => v' = .tuple #[.string (printP l).1, .int .i64 (printP l).2] ∧ L' = L) :=
  SCall.lift fun w hi => Print_core (L := []) (Γ := ⟨Γ.P, w, []⟩) hP rfl (SlC.mono (fun a v h => Cell.lift hi h) hl) ho (fun L i h => Cell.any (Cell.lift hi (hM _ i h)))

end Go.Proofs.YtcenlgofldnfcaaDoor
set_option linter.unusedVariables false
set_option linter.unusedSimpArgs false
namespace Go.Proofs.YtcenlgofldnfcaaDoor
open Go.RowKit Go.SX Go.Proofs
open Go.SX renaming ia_someH → Φa

/-! Pack. -/
/-- A literal's bytes as a slice of its own: the row gets its mark. -/
theorem RX.marked {Γ : Ctx} {n : Nat} {Q : Exit → Env → Hp → Prop} {T : Env} {L : Hp} {ops : Array Oper} {o : Oper} {rest : List Oper} {t e e1 : TypeId} {x : Operand} {g m c i : Nat} {C : List Value} (hop : o.op = .convert t t x) (hg : o.guard = none) (hx : ev T x = .slice (some ⟨g, 0, none⟩) m c)
    (ht : Γ.P.underlying t = some (.slice e)) (he : Γ.P.underlying e = some (.int .u8)) (hi : L[i]? = some (some (g, .cells C.toArray e1 (0, 0))))
    (hk : putVC n o.dst (.slice (some ⟨g, 0, none⟩) m c) T (fun T' => RX Γ n ops rest Q T' (L.set i (some (g, .cells C.toArray e1 (C.length, C.length + 1)))))) : RX Γ n ops (o :: rest) Q T L := fun ds a w hf hI => by
  have hw : Region.wanted o (yielded ops a.tmps) = true := by unfold Region.wanted; rw [hg]
  have hb := hI.blk g _ (List.mem_of_getElem? hi)
  have hsh : w.shape? g = some (e1, C.length) := by unfold World.shape?; rw [hb]; simp
  simp only [wpList, hw, if_true]
  refine .inl ?_
  unfold Oper.wp
  have hrun : (execOp (ev T) o).run Γ.P w = .ok (.value (.slice (some ⟨g, 0, none⟩) m c)) (w.freeze ⟨g, C.length, none⟩ 1) := by
    simp [execOp, hop, hx, convert, run_underlying ht, run_underlying he, markStringish, hsh]
  rw [hf.eval, hrun]
  obtain ⟨T', hf', hk'⟩ := putVC_sound hf hk
  refine hk' ds _ _ hf' (hI.set (i := i) (o' := .cells C.toArray e1 (C.length, C.length + 1)) hi ?_ (fun k hk => ?_) ?_ rfl rfl rfl)
  · show (w.freeze ⟨g, C.length, none⟩ 1).heap[g]? = _
    unfold World.freeze
    rw [if_neg (by decide)]
    simp [Array.getElem?_modify, hb]
  · unfold World.freeze
    rw [if_neg (by decide)]
    simp only [Array.getElem?_modify]
    rw [if_neg (Ne.symm hk)]
  · unfold World.freeze
    rw [if_neg (by decide)]
    simp
def hd0 (x : Rc) : Int := bits .or .u8 x.code (IntKind.u8.wrap (x.md * 2 ^ min 5 8))
def hd1 (x : Rc) : Int := if x.rd = true then bits .or .u8 (hd0 x) 4 else hd0 x
def hd2 (x : Rc) : Int := if x.wr = true then bits .or .u8 (hd1 x) 8 else hd1 x
def hd3 (x : Rc) : Int := if x.q = true then bits .or .u8 (hd2 x) 16 else hd2 x
def farB (x : Rc) (next : Int) : Bool := !decide (x.ad = next) || !decide (x.port = 0)
def frontI (x : Rc) (next : Int) : List Int := if farB x next = true then [bits .or .u8 (hd3 x) 128, x.port, IntKind.u8.wrap x.ad, IntKind.u8.wrap (Int.fdiv x.ad (2 ^ min 8 16))] else [hd3 x]
def packI (x : Rc) (next : Int) : List Int := frontI x next ++ [x.data]
def recsI : List Rc → Int → List Int
  | [], _ => []
  | x :: l, next => packI x next ++ recsI l (IntKind.u16.wrap (x.ad + 1))
def nxtI : List Rc → Int → Int
  | [], n => n
  | x :: l, _ => nxtI l (IntKind.u16.wrap (x.ad + 1))
theorem recsI_app : ∀ (a b : List Rc) (n : Int), recsI (a ++ b) n = recsI a n ++ recsI b (nxtI a n)
  | [], b, n => rfl
  | x :: a, b, n => by rw [List.cons_append, recsI, recsI_app a b, recsI, nxtI, List.append_assoc]
theorem nxtI_app : ∀ (a : List Rc) (x : Rc) (n : Int), nxtI (a ++ [x]) n = IntKind.u16.wrap (x.ad + 1)
  | [], x, n => rfl
  | y :: a, x, n => by rw [List.cons_append, nxtI, nxtI_app a]
theorem frontI_len (x : Rc) (n : Int) : (frontI x n).length ≤ 4 := by unfold frontI; split <;> simp
theorem recsI_len : ∀ (l : List Rc) (n : Int), (recsI l n).length ≤ 5 * l.length
  | [], n => Nat.zero_le _
  | x :: l, n => by
    have h1 := recsI_len l (IntKind.u16.wrap (x.ad + 1))
    have h2 := frontI_len x n
    rw [recsI, packI, List.length_append, List.length_append, List.length_cons]
    simp only [List.length_cons, List.length_nil]
    omega
theorem recsI_take {l : List Rc} {k : Nat} (h : k < l.length) : recsI (l.take (k + 1)) 0 = recsI (l.take k) 0 ++ packI (l.getD k default) (nxtI (l.take k) 0) := by
  rw [List.take_add_one, getD_get (d := default) h, recsI_app]
  show _ ++ (packI _ _ ++ []) = _
  rw [List.append_nil]
theorem nxtI_take {l : List Rc} {k : Nat} (h : k < l.length) : nxtI (l.take (k + 1)) 0 = IntKind.u16.wrap ((l.getD k default).ad + 1) := by
  rw [List.take_add_one, getD_get (d := default) h]
  exact nxtI_app _ _ _
def frontL (n : Nat) : List Int := [86, 84, 82, 49] ++ [IntKind.u8.wrap (n : Int), IntKind.u8.wrap (Int.fdiv (n : Int) (2 ^ min 8 64)), IntKind.u8.wrap (Int.fdiv (n : Int) (2 ^ min 16 64)), IntKind.u8.wrap (Int.fdiv (n : Int) (2 ^ min 24 64))]
def packP (l : List Rc) : List Int × Int := if chkL l = 0 then (frontL l.length ++ recsI l 0, 0) else ([], chkL l)
def PackR (l : List Rc) (L : Hp) (v : Value) (L' : Hp) : Prop := ∃ vo so, v = .tuple #[vo, .int .i64 (packP l).2] ∧ L' = so :: L ∧ RowI .u8 5 vo (packP l).1 so
set_option maxHeartbeats 1000000 in
set_option maxRecDepth 100000 in
theorem pack_spec {Γ : Ctx} (hP : Γ.P = Tryd.prog) {L : Hp} {i : Nat} {v : Value} {bs : List Int} {s : Slot} {x : Rc} {next : Int} (hi : L[i]? = some s) (hr : RowI .u8 5 v bs s) (hm : bs.length ≤ 100000000000) :
    SCall Γ 34 #[v, (.agg x.cells.toArray), (.int .u16 next)] L (fun v' L' => ∃ s', L' = L.set i s' ∧ RowI .u8 5 v' (bs ++ packI x next) s') := by
  obtain ⟨vA, vC, rfl, _, _⟩ := Row.form hr
  refine SCall.enter (n := 58) (res1 6) (hP ▸ Tryd.func34) rfl rfl (by simp) (res1_ok rfl) ?_
  refine SX.seq_k fun K1 hK1 => ?_
  refine SX.region_d [some 4, some 6] rfl (fun ops hops => ?_)
  unfold Dsts at hops
  simp (maxSteps:=1000000)(dsimp:=false)(disch:=omega) only [go_sem, Φa, hP, hops]
  intro b4
  try with_reducible refine stI ?_
  try simp (maxSteps:=1000000)(dsimp:=false)(disch:=omega) only [go_sem, Φa, hP, hops]
  refine hK1 _ _ ?_
  try clear hK1 K1
  refine SX.seq_k fun K2 hK2 => ?_
  refine SX.region_d [some 8, some 9, some 10, some 11, some 12, some 13, some 7] rfl (fun ops hops => ?_)
  unfold Dsts at hops
  simp (maxSteps:=1000000)(dsimp:=false)(disch:=omega) only [go_sem, Φa, hP, hops]
  refine ⟨_, Cell.at 0 rfl (show (Rc.cells _)[0]? = _ from rfl), ?_⟩
  try with_reducible refine stI ?_
  try simp (maxSteps:=1000000)(dsimp:=false)(disch:=omega) only [go_sem, Φa, hP, hops]
  refine ⟨_, Cell.at 0 rfl (show (Rc.cells _)[7]? = _ from rfl), ?_⟩
  try with_reducible refine stI ?_
  try simp (maxSteps:=1000000)(dsimp:=false)(disch:=omega) only [go_sem, Φa, hP, hops]
  refine hK2 _ _ ?_
  try clear hK2 K2
  refine SX.live [0, 2, 4, 7] (fun T1 hT1 => ?_)
  simp only [forall_mem_cons', forall_mem_nil', go_sem, Φa, hP] at hT1
  obtain ⟨h1_0, h1_2, h1_4, h1_7⟩ := hT1
  refine SX.live [0, 2, 4, 7] (fun T2 hT2 => ?_)
  simp only [forall_mem_cons', forall_mem_nil', go_sem, Φa, hP, h1_0, h1_2, h1_4, h1_7] at hT2
  obtain ⟨h2_0, h2_2, h2_4, h2_7⟩ := hT2
  clear h1_0 h1_2 h1_4 h1_7 T1
  refine SX.join (fun (ss : Unit) T L' => T 7 = .int .u8 (hd1 x) ∧ T 0 = T2 0 ∧ T 2 = T2 2 ∧ T 4 = T2 4 ∧ L' = some (b4, .cells x.cells.toArray 46 (0, 0)) :: L ∧ (True)) (fun K3 hK3 => ?_) ?_
  · simp only [h2_0, h2_2, h2_4] at hK3
    refine SX.seq_k fun K4 hK4 => ?_
    refine SX.region_d [some 14, some 15] rfl (fun ops hops => ?_)
    unfold Dsts at hops
    simp (maxSteps:=1000000)(dsimp:=false)(disch:=omega) only [go_sem, Φa, hP, h2_0, h2_2, h2_4, h2_7, hops]
    refine ⟨_, Cell.at 0 rfl (show (Rc.cells _)[3]? = _ from rfl), ?_⟩
    try with_reducible refine stI ?_
    try simp (maxSteps:=1000000)(dsimp:=false)(disch:=omega) only [go_sem, Φa, hP, h2_0, h2_2, h2_4, h2_7, hops]
    refine hK4 _ _ ?_
    try clear hK4 K4
    refine SX.cond_k fun X5 Y5 hX5 hY5 => ?_
    simp (maxSteps:=1000000)(dsimp:=false)(disch:=omega) only [go_sem, Φa, hP, h2_0, h2_2, h2_4, h2_7, condVC]
    refine ⟨fun hc15 => hX5 ?_, fun hc15 => hY5 ?_⟩
    · clear hX5 hY5 X5 Y5
      refine SX.region_d [some 16, some 17, some 7] rfl (fun ops hops => ?_)
      unfold Dsts at hops
      simp (maxSteps:=1000000)(dsimp:=false)(disch:=omega) only [go_sem, Φa, hP, h2_0, h2_2, h2_4, h2_7, hops]
      repeat' ((first | refine And.intro (by omega) ?_ | fail); try (with_reducible refine stI ?_); try simp (maxSteps:=1000000)(dsimp:=false)(disch:=omega) only [go_sem, Φa, hP, h2_0, h2_2, h2_4, h2_7, hops])
      refine hK3 () _ (some (b4, .cells x.cells.toArray 46 (0, 0)) :: L) _ (by first | exact Less.refl _ | exact Less.drop _ _ | exact Less.drops (Less.drop _ _) | exact Less.drops (Less.drops (Less.drop _ _)) | exact Less.drops (Less.drops (Less.drops (Less.drop _ _))) | exact Less.drops (Less.drops (Less.drops (Less.drops (Less.drop _ _))))) ?_
      try dsimp only
      refine ⟨?_, ?_, ?_, ?_, ?_, ?_⟩
      · simp (maxSteps:=1000000)(dsimp:=false)(disch:=omega) only [go_sem, Φa, hP, h2_0, h2_2, h2_4, h2_7]
        first | rfl | (unfold hd1; rw [if_pos hc15]; done) | (unfold hd1; rw [if_pos hc15]; rfl)
      · simp (maxSteps:=1000000)(dsimp:=false)(disch:=omega) only [go_sem, Φa, hP, h2_0, h2_2, h2_4, h2_7]
      · simp (maxSteps:=1000000)(dsimp:=false)(disch:=omega) only [go_sem, Φa, hP, h2_0, h2_2, h2_4, h2_7]
      · simp (maxSteps:=1000000)(dsimp:=false)(disch:=omega) only [go_sem, Φa, hP, h2_0, h2_2, h2_4, h2_7]
      · rfl
      · trivial
    · clear hX5 hY5 X5 Y5
      refine SX.skip ?_
      try simp only [andThen_normal, andThen_ret, andThen_exit, inBlk_normal, inBlk_ret, inBlk_exit, Nat.reduceEqDiff, if_true, if_false, ↓reduceIte]
      refine hK3 () _ (some (b4, .cells x.cells.toArray 46 (0, 0)) :: L) _ (by first | exact Less.refl _ | exact Less.drop _ _ | exact Less.drops (Less.drop _ _) | exact Less.drops (Less.drops (Less.drop _ _)) | exact Less.drops (Less.drops (Less.drops (Less.drop _ _))) | exact Less.drops (Less.drops (Less.drops (Less.drops (Less.drop _ _))))) ?_
      try dsimp only
      refine ⟨?_, ?_, ?_, ?_, ?_, ?_⟩
      · simp (maxSteps:=1000000)(dsimp:=false)(disch:=omega) only [go_sem, Φa, hP, h2_0, h2_2, h2_4, h2_7]
        first | rfl | (unfold hd1; rw [if_neg (by rw [hc15]; simp)]; done) | (unfold hd1; rw [if_neg (by rw [hc15]; simp)]; rfl)
      · simp (maxSteps:=1000000)(dsimp:=false)(disch:=omega) only [go_sem, Φa, hP, h2_0, h2_2, h2_4, h2_7]
      · simp (maxSteps:=1000000)(dsimp:=false)(disch:=omega) only [go_sem, Φa, hP, h2_0, h2_2, h2_4, h2_7]
      · simp (maxSteps:=1000000)(dsimp:=false)(disch:=omega) only [go_sem, Φa, hP, h2_0, h2_2, h2_4, h2_7]
      · rfl
      · trivial
  · intro ss T3 L3 hI
    simp only [h2_0, h2_2, h2_4] at hI 
    obtain ⟨h3_7, h3_0, h3_2, h3_4, hL3, hinv⟩ := hI
    replace hL3 := hL3.symm
    subst hL3
    clear h2_0 h2_2 h2_4 h2_7 T2
    refine SX.live [0, 2, 4, 7] (fun T4 hT4 => ?_)
    simp only [forall_mem_cons', forall_mem_nil', go_sem, Φa, hP, h3_7, h3_0, h3_2, h3_4] at hT4
    obtain ⟨h4_0, h4_2, h4_4, h4_7⟩ := hT4
    clear h3_7 h3_0 h3_2 h3_4 T3
    refine SX.join (fun (ss : Unit) T L' => T 7 = .int .u8 (hd2 x) ∧ T 0 = T4 0 ∧ T 2 = T4 2 ∧ T 4 = T4 4 ∧ L' = some (b4, .cells x.cells.toArray 46 (0, 0)) :: L ∧ (True)) (fun K6 hK6 => ?_) ?_
    · simp only [h4_0, h4_2, h4_4] at hK6
      refine SX.seq_k fun K7 hK7 => ?_
      refine SX.region_d [some 18, some 19] rfl (fun ops hops => ?_)
      unfold Dsts at hops
      simp (maxSteps:=1000000)(dsimp:=false)(disch:=omega) only [go_sem, Φa, hP, h4_0, h4_2, h4_4, h4_7, hops]
      refine ⟨_, Cell.at 0 rfl (show (Rc.cells _)[4]? = _ from rfl), ?_⟩
      try with_reducible refine stI ?_
      try simp (maxSteps:=1000000)(dsimp:=false)(disch:=omega) only [go_sem, Φa, hP, h4_0, h4_2, h4_4, h4_7, hops]
      refine hK7 _ _ ?_
      try clear hK7 K7
      refine SX.cond_k fun X8 Y8 hX8 hY8 => ?_
      simp (maxSteps:=1000000)(dsimp:=false)(disch:=omega) only [go_sem, Φa, hP, h4_0, h4_2, h4_4, h4_7, condVC]
      refine ⟨fun hc19 => hX8 ?_, fun hc19 => hY8 ?_⟩
      · clear hX8 hY8 X8 Y8
        refine SX.region_d [some 20, some 21, some 7] rfl (fun ops hops => ?_)
        unfold Dsts at hops
        simp (maxSteps:=1000000)(dsimp:=false)(disch:=omega) only [go_sem, Φa, hP, h4_0, h4_2, h4_4, h4_7, hops]
        repeat' ((first | refine And.intro (by omega) ?_ | fail); try (with_reducible refine stI ?_); try simp (maxSteps:=1000000)(dsimp:=false)(disch:=omega) only [go_sem, Φa, hP, h4_0, h4_2, h4_4, h4_7, hops])
        refine hK6 () _ (some (b4, .cells x.cells.toArray 46 (0, 0)) :: L) _ (by first | exact Less.refl _ | exact Less.drop _ _ | exact Less.drops (Less.drop _ _) | exact Less.drops (Less.drops (Less.drop _ _)) | exact Less.drops (Less.drops (Less.drops (Less.drop _ _))) | exact Less.drops (Less.drops (Less.drops (Less.drops (Less.drop _ _))))) ?_
        try dsimp only
        refine ⟨?_, ?_, ?_, ?_, ?_, ?_⟩
        · simp (maxSteps:=1000000)(dsimp:=false)(disch:=omega) only [go_sem, Φa, hP, h4_0, h4_2, h4_4, h4_7]
          first | rfl | (unfold hd2; rw [if_pos hc19]; done) | (unfold hd2; rw [if_pos hc19]; rfl)
        · simp (maxSteps:=1000000)(dsimp:=false)(disch:=omega) only [go_sem, Φa, hP, h4_0, h4_2, h4_4, h4_7]
        · simp (maxSteps:=1000000)(dsimp:=false)(disch:=omega) only [go_sem, Φa, hP, h4_0, h4_2, h4_4, h4_7]
        · simp (maxSteps:=1000000)(dsimp:=false)(disch:=omega) only [go_sem, Φa, hP, h4_0, h4_2, h4_4, h4_7]
        · rfl
        · trivial
      · clear hX8 hY8 X8 Y8
        refine SX.skip ?_
        try simp only [andThen_normal, andThen_ret, andThen_exit, inBlk_normal, inBlk_ret, inBlk_exit, Nat.reduceEqDiff, if_true, if_false, ↓reduceIte]
        refine hK6 () _ (some (b4, .cells x.cells.toArray 46 (0, 0)) :: L) _ (by first | exact Less.refl _ | exact Less.drop _ _ | exact Less.drops (Less.drop _ _) | exact Less.drops (Less.drops (Less.drop _ _)) | exact Less.drops (Less.drops (Less.drops (Less.drop _ _))) | exact Less.drops (Less.drops (Less.drops (Less.drops (Less.drop _ _))))) ?_
        try dsimp only
        refine ⟨?_, ?_, ?_, ?_, ?_, ?_⟩
        · simp (maxSteps:=1000000)(dsimp:=false)(disch:=omega) only [go_sem, Φa, hP, h4_0, h4_2, h4_4, h4_7]
          first | rfl | (unfold hd2; rw [if_neg (by rw [hc19]; simp)]; done) | (unfold hd2; rw [if_neg (by rw [hc19]; simp)]; rfl)
        · simp (maxSteps:=1000000)(dsimp:=false)(disch:=omega) only [go_sem, Φa, hP, h4_0, h4_2, h4_4, h4_7]
        · simp (maxSteps:=1000000)(dsimp:=false)(disch:=omega) only [go_sem, Φa, hP, h4_0, h4_2, h4_4, h4_7]
        · simp (maxSteps:=1000000)(dsimp:=false)(disch:=omega) only [go_sem, Φa, hP, h4_0, h4_2, h4_4, h4_7]
        · rfl
        · trivial
    · intro ss T5 L5 hI
      simp only [h4_0, h4_2, h4_4] at hI 
      obtain ⟨h5_7, h5_0, h5_2, h5_4, hL5, hinv⟩ := hI
      replace hL5 := hL5.symm
      subst hL5
      clear h4_0 h4_2 h4_4 h4_7 T4
      refine SX.live [0, 2, 4, 7] (fun T6 hT6 => ?_)
      simp only [forall_mem_cons', forall_mem_nil', go_sem, Φa, hP, h5_7, h5_0, h5_2, h5_4] at hT6
      obtain ⟨h6_0, h6_2, h6_4, h6_7⟩ := hT6
      clear h5_7 h5_0 h5_2 h5_4 T5
      refine SX.join (fun (ss : Unit) T L' => T 7 = .int .u8 (hd3 x) ∧ T 0 = T6 0 ∧ T 2 = T6 2 ∧ T 4 = T6 4 ∧ L' = some (b4, .cells x.cells.toArray 46 (0, 0)) :: L ∧ (True)) (fun K9 hK9 => ?_) ?_
      · simp only [h6_0, h6_2, h6_4] at hK9
        refine SX.seq_k fun K10 hK10 => ?_
        refine SX.region_d [some 22, some 23] rfl (fun ops hops => ?_)
        unfold Dsts at hops
        simp (maxSteps:=1000000)(dsimp:=false)(disch:=omega) only [go_sem, Φa, hP, h6_0, h6_2, h6_4, h6_7, hops]
        refine ⟨_, Cell.at 0 rfl (show (Rc.cells _)[6]? = _ from rfl), ?_⟩
        try with_reducible refine stI ?_
        try simp (maxSteps:=1000000)(dsimp:=false)(disch:=omega) only [go_sem, Φa, hP, h6_0, h6_2, h6_4, h6_7, hops]
        refine hK10 _ _ ?_
        try clear hK10 K10
        refine SX.cond_k fun X11 Y11 hX11 hY11 => ?_
        simp (maxSteps:=1000000)(dsimp:=false)(disch:=omega) only [go_sem, Φa, hP, h6_0, h6_2, h6_4, h6_7, condVC]
        refine ⟨fun hc23 => hX11 ?_, fun hc23 => hY11 ?_⟩
        · clear hX11 hY11 X11 Y11
          refine SX.region_d [some 24, some 25, some 7] rfl (fun ops hops => ?_)
          unfold Dsts at hops
          simp (maxSteps:=1000000)(dsimp:=false)(disch:=omega) only [go_sem, Φa, hP, h6_0, h6_2, h6_4, h6_7, hops]
          repeat' ((first | refine And.intro (by omega) ?_ | fail); try (with_reducible refine stI ?_); try simp (maxSteps:=1000000)(dsimp:=false)(disch:=omega) only [go_sem, Φa, hP, h6_0, h6_2, h6_4, h6_7, hops])
          refine hK9 () _ (some (b4, .cells x.cells.toArray 46 (0, 0)) :: L) _ (by first | exact Less.refl _ | exact Less.drop _ _ | exact Less.drops (Less.drop _ _) | exact Less.drops (Less.drops (Less.drop _ _)) | exact Less.drops (Less.drops (Less.drops (Less.drop _ _))) | exact Less.drops (Less.drops (Less.drops (Less.drops (Less.drop _ _))))) ?_
          try dsimp only
          refine ⟨?_, ?_, ?_, ?_, ?_, ?_⟩
          · simp (maxSteps:=1000000)(dsimp:=false)(disch:=omega) only [go_sem, Φa, hP, h6_0, h6_2, h6_4, h6_7]
            first | rfl | (unfold hd3; rw [if_pos hc23]; done) | (unfold hd3; rw [if_pos hc23]; rfl)
          · simp (maxSteps:=1000000)(dsimp:=false)(disch:=omega) only [go_sem, Φa, hP, h6_0, h6_2, h6_4, h6_7]
          · simp (maxSteps:=1000000)(dsimp:=false)(disch:=omega) only [go_sem, Φa, hP, h6_0, h6_2, h6_4, h6_7]
          · simp (maxSteps:=1000000)(dsimp:=false)(disch:=omega) only [go_sem, Φa, hP, h6_0, h6_2, h6_4, h6_7]
          · rfl
          · trivial
        · clear hX11 hY11 X11 Y11
          refine SX.skip ?_
          try simp only [andThen_normal, andThen_ret, andThen_exit, inBlk_normal, inBlk_ret, inBlk_exit, Nat.reduceEqDiff, if_true, if_false, ↓reduceIte]
          refine hK9 () _ (some (b4, .cells x.cells.toArray 46 (0, 0)) :: L) _ (by first | exact Less.refl _ | exact Less.drop _ _ | exact Less.drops (Less.drop _ _) | exact Less.drops (Less.drops (Less.drop _ _)) | exact Less.drops (Less.drops (Less.drops (Less.drop _ _))) | exact Less.drops (Less.drops (Less.drops (Less.drops (Less.drop _ _))))) ?_
          try dsimp only
          refine ⟨?_, ?_, ?_, ?_, ?_, ?_⟩
          · simp (maxSteps:=1000000)(dsimp:=false)(disch:=omega) only [go_sem, Φa, hP, h6_0, h6_2, h6_4, h6_7]
            first | rfl | (unfold hd3; rw [if_neg (by rw [hc23]; simp)]; done) | (unfold hd3; rw [if_neg (by rw [hc23]; simp)]; rfl)
          · simp (maxSteps:=1000000)(dsimp:=false)(disch:=omega) only [go_sem, Φa, hP, h6_0, h6_2, h6_4, h6_7]
          · simp (maxSteps:=1000000)(dsimp:=false)(disch:=omega) only [go_sem, Φa, hP, h6_0, h6_2, h6_4, h6_7]
          · simp (maxSteps:=1000000)(dsimp:=false)(disch:=omega) only [go_sem, Φa, hP, h6_0, h6_2, h6_4, h6_7]
          · rfl
          · trivial
      · intro ss T7 L7 hI
        simp only [h6_0, h6_2, h6_4] at hI 
        obtain ⟨h7_7, h7_0, h7_2, h7_4, hL7, hinv⟩ := hI
        replace hL7 := hL7.symm
        subst hL7
        clear h6_0 h6_2 h6_4 h6_7 T6
        refine SX.live [0, 2, 4, 7] (fun T8 hT8 => ?_)
        simp only [forall_mem_cons', forall_mem_nil', go_sem, Φa, hP, h7_7, h7_0, h7_2, h7_4] at hT8
        obtain ⟨h8_0, h8_2, h8_4, h8_7⟩ := hT8
        clear h7_7 h7_0 h7_2 h7_4 T7
        refine SX.join (fun (ss : (Value) × (Slot)) T L' => (fun (v2 : Value) (s2 : Slot) => T 0 = v2 ∧ T 4 = T8 4 ∧ L' = some (b4, .cells x.cells.toArray 46 (0, 0)) :: L.set i s2 ∧ (RowI .u8 5 v2 (bs ++ frontI x next) s2)) (ss.1) (ss.2)) (fun K12 hK12 => ?_) ?_
        · simp only [h8_4] at hK12
          refine SX.seq_k fun K13 hK13 => ?_
          refine SX.region_xd [some 26, some 27, some 28, some 29, some 30, some 31, some 32, some 33, some 34] rfl (fun ops hops => ?_)
          unfold Dsts at hops
          refine RX.live [0, 2, 4, 7] (fun T9 hT9 => ?_)
          simp only [forall_mem_cons', forall_mem_nil', go_sem, Φa, hP, h8_0, h8_2, h8_4, h8_7] at hT9
          obtain ⟨h9_0, h9_2, h9_4, h9_7⟩ := hT9
          clear h8_0 h8_2 h8_4 h8_7 T8
          refine RX.join 9 (fun (ss : Unit) T L' => T 34 = .bool (farB x next) ∧ T 0 = T9 0 ∧ T 4 = T9 4 ∧ T 7 = T9 7 ∧ L' = some (b4, .cells x.cells.toArray 46 (0, 0)) :: L ∧ (True)) (fun K14 hK14 => ?_) ?_
          · simp only [h9_0, h9_4, h9_7] at hK14
            simp (maxSteps:=1000000)(dsimp:=false)(disch:=omega) only [go_sem, Φa, hP, h9_0, h9_2, h9_4, h9_7, hops]
            repeat' (first | refine iteB (fun hg => ?_) (fun hg => ?_) | refine iteI (fun hg => ?_) (fun hg => ?_) | ((first | refine ⟨_, Cell.at 0 rfl (show (Rc.cells _)[1]? = _ from rfl), ?_⟩ | refine ⟨_, Cell.at 0 rfl (show (Rc.cells _)[5]? = _ from rfl), ?_⟩ | refine And.intro (by omega) ?_ | refine ⟨_, Cell.at 0 rfl rfl, ?_⟩ | fail); try (with_reducible refine stI ?_); try simp (maxSteps:=1000000)(dsimp:=false)(disch:=omega) only [go_sem, Φa, hP, h9_0, h9_2, h9_4, h9_7, hops]) | fail)
            all_goals
              refine hK14 () _ (some (b4, .cells x.cells.toArray 46 (0, 0)) :: L) _ (by first | exact Less.refl _ | exact Less.drop _ _ | exact Less.drops (Less.drop _ _) | exact Less.drops (Less.drops (Less.drop _ _)) | exact Less.drops (Less.drops (Less.drops (Less.drop _ _))) | exact Less.drops (Less.drops (Less.drops (Less.drops (Less.drop _ _))))) ?_
              try dsimp only
              refine ⟨?_, ?_, ?_, ?_, ?_, ?_⟩
              · simp (maxSteps:=1000000)(dsimp:=false)(disch:=omega) only [go_sem, Φa, hP, h9_0, h9_2, h9_4, h9_7]
                first | done | (refine congrArg Value.bool ?_; simp_all [farB]; done)
              · simp (maxSteps:=1000000)(dsimp:=false)(disch:=omega) only [go_sem, Φa, hP, h9_0, h9_2, h9_4, h9_7]
              · simp (maxSteps:=1000000)(dsimp:=false)(disch:=omega) only [go_sem, Φa, hP, h9_0, h9_2, h9_4, h9_7]
              · simp (maxSteps:=1000000)(dsimp:=false)(disch:=omega) only [go_sem, Φa, hP, h9_0, h9_2, h9_4, h9_7]
              · rfl
              · trivial
          · intro ss T10 L10 hI
            simp only [h9_0, h9_4, h9_7] at hI 
            obtain ⟨h10_34, h10_0, h10_4, h10_7, hL10, hinv⟩ := hI
            replace hL10 := hL10.symm
            subst hL10
            clear h9_0 h9_2 h9_4 h9_7 T9
            refine RX.done ?_
            simp (maxSteps:=1000000)(dsimp:=false)(disch:=omega) only [go_sem, Φa, hP, h10_34, h10_0, h10_4, h10_7, hops]
            refine hK13 _ _ ?_
            try clear hK13 K13
            refine SX.cond_k fun X15 Y15 hX15 hY15 => ?_
            simp (maxSteps:=1000000)(dsimp:=false)(disch:=omega) only [go_sem, Φa, hP, h10_34, h10_0, h10_4, h10_7, condVC]
            refine ⟨fun hc34 => hX15 ?_, fun hc34 => hY15 ?_⟩
            · clear hX15 hY15 X15 Y15
              refine SX.region_d [some 35, some 36, some 37, some 38, some 39, some 40, some 41, some 42, some 43, some 44, some 45, some 46, some 47, some 48, some 0] rfl (fun ops hops => ?_)
              unfold Dsts at hops
              simp (maxSteps:=1000000)(dsimp:=false)(disch:=omega) only [go_sem, Φa, hP, h10_34, h10_0, h10_4, h10_7, hops]
              refine ⟨_, Cell.at 0 rfl (show (Rc.cells _)[5]? = _ from rfl), ?_⟩
              try with_reducible refine stI ?_
              try simp (maxSteps:=1000000)(dsimp:=false)(disch:=omega) only [go_sem, Φa, hP, h10_34, h10_0, h10_4, h10_7, hops]
              refine ⟨_, Cell.at 0 rfl (show (Rc.cells _)[1]? = _ from rfl), ?_⟩
              try with_reducible refine stI ?_
              try simp (maxSteps:=1000000)(dsimp:=false)(disch:=omega) only [go_sem, Φa, hP, h10_34, h10_0, h10_4, h10_7, hops]
              refine ⟨_, Cell.at 0 rfl (show (Rc.cells _)[1]? = _ from rfl), ?_⟩
              try with_reducible refine stI ?_
              try simp (maxSteps:=1000000)(dsimp:=false)(disch:=omega) only [go_sem, Φa, hP, h10_34, h10_0, h10_4, h10_7, hops]
              intro g47
              try with_reducible refine stI ?_
              try simp (maxSteps:=1000000)(dsimp:=false)(disch:=omega) only [go_sem, Φa, hP, h10_34, h10_0, h10_4, h10_7, hops]
              refine YAppend.ints (i := i + 2) (m := [bits .or .u8 (hd3 x) 128, x.port, IntKind.u8.wrap x.ad, IntKind.u8.wrap (Int.fdiv x.ad (2 ^ min 8 16))]) (hP ▸ T.elS_30) (hP ▸ T.zr_5) rfl hi hr (SlI.own 0 rfl rfl (Nat.le_refl _)) (by simp only [List.length_cons, List.length_nil]; omega) (by decide) ?_
              intro v' s' hr'
              obtain ⟨A', c', rfl, _, _⟩ := Row.form hr'
              try with_reducible refine stI ?_
              try simp (maxSteps:=1000000)(dsimp:=false)(disch:=omega) only [go_sem, Φa, hP, h10_34, h10_0, h10_4, h10_7, hops]
              refine hK12 (.slice A' (bs ++ [bits .or .u8 (hd3 x) 128, x.port, IntKind.u8.wrap x.ad, IntKind.u8.wrap (Int.fdiv x.ad (2 ^ min 8 16))]).length c', s') _ (some (b4, .cells x.cells.toArray 46 (0, 0)) :: L.set i s') _ (by exact Less.drop _ _) ?_
              try dsimp only
              refine ⟨?_, ?_, ?_, ?_⟩
              · simp (maxSteps:=1000000)(dsimp:=false)(disch:=omega) only [go_sem, Φa, hP, h10_34, h10_0, h10_4, h10_7]
                first | done | rfl | skip
              · simp (maxSteps:=1000000)(dsimp:=false)(disch:=omega) only [go_sem, Φa, hP, h10_34, h10_0, h10_4, h10_7]
              · rfl
              · unfold frontI; rw [if_pos (by simpa using hc34)]; exact hr'
            · clear hX15 hY15 X15 Y15
              refine SX.region_d [some 49, some 50, some 51, some 52, some 0] rfl (fun ops hops => ?_)
              unfold Dsts at hops
              simp (maxSteps:=1000000)(dsimp:=false)(disch:=omega) only [go_sem, Φa, hP, h10_34, h10_0, h10_4, h10_7, hops]
              intro g51
              try with_reducible refine stI ?_
              try simp (maxSteps:=1000000)(dsimp:=false)(disch:=omega) only [go_sem, Φa, hP, h10_34, h10_0, h10_4, h10_7, hops]
              refine YAppend.int1 (i := i + 1) (hP ▸ T.elS_30) (hP ▸ T.zr_5) rfl hi hr (by omega) (by decide) ?_
              intro v' s' hr'
              obtain ⟨A', c', rfl, _, _⟩ := Row.form hr'
              try with_reducible refine stI ?_
              try simp (maxSteps:=1000000)(dsimp:=false)(disch:=omega) only [go_sem, Φa, hP, h10_34, h10_0, h10_4, h10_7, hops]
              refine hK12 (.slice A' (bs ++ [hd3 x]).length c', s') _ (some (b4, .cells x.cells.toArray 46 (0, 0)) :: L.set i s') _ (by exact Less.drop _ _) ?_
              try dsimp only
              refine ⟨?_, ?_, ?_, ?_⟩
              · simp (maxSteps:=1000000)(dsimp:=false)(disch:=omega) only [go_sem, Φa, hP, h10_34, h10_0, h10_4, h10_7]
                first | done | rfl | skip
              · simp (maxSteps:=1000000)(dsimp:=false)(disch:=omega) only [go_sem, Φa, hP, h10_34, h10_0, h10_4, h10_7]
              · rfl
              · unfold frontI; rw [if_neg (by simpa using hc34)]; exact hr'
        · intro ss T11 L11 hI
          obtain ⟨v2, s2⟩ := ss
          try dsimp only at hI 
          simp only [h8_4] at hI 
          obtain ⟨h11_0, h11_4, hL11, hr2⟩ := hI
          replace hL11 := hL11.symm
          subst hL11
          clear h8_0 h8_2 h8_4 h8_7 T8
          refine SX.seq_k fun K16 hK16 => ?_
          obtain ⟨oA, oC, rfl, _, _⟩ := Row.form hr2
          have hfl := frontI_len x next
          refine SX.region_d [some 53, some 54, some 55, some 56, some 57, some 6] rfl (fun ops hops => ?_)
          unfold Dsts at hops
          simp (maxSteps:=1000000)(dsimp:=false)(disch:=omega) only [go_sem, Φa, hP, h11_0, h11_4, hops]
          refine ⟨_, Cell.at 0 rfl (show (Rc.cells _)[2]? = _ from rfl), ?_⟩
          try with_reducible refine stI ?_
          try simp (maxSteps:=1000000)(dsimp:=false)(disch:=omega) only [go_sem, Φa, hP, h11_0, h11_4, hops]
          intro g56
          try with_reducible refine stI ?_
          try simp (maxSteps:=1000000)(dsimp:=false)(disch:=omega) only [go_sem, Φa, hP, h11_0, h11_4, hops]
          refine YAppend.int1 (i := i + 1) (hP ▸ T.elS_30) (hP ▸ T.zr_5) rfl (get_set hi) hr2 (by rw [List.length_append]; omega) (by decide) ?_
          intro v' s' hr'
          obtain ⟨A', c', rfl, _, _⟩ := Row.form hr'
          try with_reducible refine stI ?_
          try simp (maxSteps:=1000000)(dsimp:=false)(disch:=omega) only [go_sem, Φa, hP, h11_0, h11_4, hops]
          refine hK16 _ _ ?_
          try clear hK16 K16
          refine SX.ret ?_
          simp only [andThen_normal, andThen_ret, andThen_exit, inBlk_normal, inBlk_ret, inBlk_exit, Nat.reduceEqDiff, if_true, if_false, ↓reduceIte, retQ_ret]
          try simp only [res0, res1, res2, res3, stK_e, go_sem, Φa, hP, h11_0, h11_4]
          refine ⟨_, _, Less.drops (Less.drop _ _), rfl, s', by rw [List.set_set], ?_⟩
          rw [packI, ← List.append_assoc]
          exact hr'
set_option maxHeartbeats 1000000 in
set_option maxRecDepth 100000 in
theorem Pack_spec {Γ : Ctx} (hP : Γ.P = Tryd.prog) {L : Hp} {v : Value} {l : List Rc} (hl : SlC (Cell Γ L) v l) :
    SCall Γ 15 #[v] L (PackR l L) := by
  obtain ⟨A, c, rfl, hc⟩ := Sl.shape hl
  obtain ⟨a1, e1, _, hA⟩ := Sl.at1 hl
  refine SCall.enter (n := 47) (res2 2 3) (hP ▸ Tryd.func15) rfl rfl (by simp) (res2_ok rfl) ?_
  refine SX.seq_k fun K1 hK1 => ?_
  refine SX.region_d [some 2, some 3] rfl (fun ops hops => ?_)
  unfold Dsts at hops
  simp (maxSteps:=1000000)(dsimp:=false)(disch:=omega) only [go_sem, Φa, hP, hops]
  refine hK1 _ _ ?_
  try clear hK1 K1
  refine SX.seq_k fun K2 hK2 => ?_
  refine SX.seq_k fun K3 hK3 => ?_
  refine SX.region_d [some 10, some 11, some 4] rfl (fun ops hops => ?_)
  unfold Dsts at hops
  simp (maxSteps:=1000000)(dsimp:=false)(disch:=omega) only [go_sem, Φa, hP, hops]
  refine SCall.mono (check_spec hP hl) ?_
  rintro v_ L_ ⟨hv_, hL_⟩
  rw [hv_, hL_]
  clear hv_ hL_ v_ L_
  try with_reducible refine stI ?_
  try simp (maxSteps:=1000000)(dsimp:=false)(disch:=omega) only [go_sem, Φa, hP, hops]
  refine hK3 _ _ ?_
  try clear hK3 K3
  refine SX.seq_k fun K4 hK4 => ?_
  refine SX.region_d [some 12, some 13] rfl (fun ops hops => ?_)
  unfold Dsts at hops
  simp (maxSteps:=1000000)(dsimp:=false)(disch:=omega) only [go_sem, Φa, hP, hops]
  repeat' ((first | refine And.intro (by omega) ?_ | fail); try (with_reducible refine stI ?_); try simp (maxSteps:=1000000)(dsimp:=false)(disch:=omega) only [go_sem, Φa, hP, hops])
  refine hK4 _ _ ?_
  try clear hK4 K4
  refine SX.cond_k fun X5 Y5 hX5 hY5 => ?_
  simp (maxSteps:=1000000)(dsimp:=false)(disch:=omega) only [go_sem, Φa, hP, condVC]
  refine ⟨fun hc13 => hX5 ?_, fun hc13 => hY5 ?_⟩
  · clear hX5 hY5 X5 Y5
    refine SX.seq_k fun K6 hK6 => ?_
    refine SX.region_d [some 14, some 2, some 3] rfl (fun ops hops => ?_)
    unfold Dsts at hops
    simp (maxSteps:=1000000)(dsimp:=false)(disch:=omega) only [go_sem, Φa, hP, hops]
    refine hK6 _ _ ?_
    try clear hK6 K6
    refine SX.ret ?_
    simp only [andThen_normal, andThen_ret, andThen_exit, inBlk_normal, inBlk_ret, inBlk_exit, Nat.reduceEqDiff, if_true, if_false, ↓reduceIte, retQ_ret]
    try simp only [res0, res1, res2, res3, stK_e, go_sem, Φa, hP]
    have hp : packP l = ([], chkL l) := if_neg (by simpa using hc13)
    exact ⟨_, _, Less.none _, rfl, .slice none 0 0, none, by rw [hp], rfl, by rw [hp]; exact Row.nil _ _⟩
  · clear hX5 hY5 X5 Y5
    refine SX.skip ?_
    try simp only [andThen_normal, andThen_ret, andThen_exit, inBlk_normal, inBlk_ret, inBlk_exit, Nat.reduceEqDiff, if_true, if_false, ↓reduceIte]
    refine hK2 _ _ ?_
    try clear hK2 K2
    refine SX.seq_k fun K7 hK7 => ?_
    have hc0 : chkL l = 0 := by simpa using hc13
    obtain ⟨hll, hlm⟩ := chkL_zero hc0
    refine SX.region_d [some 15, some 16, some 5] rfl (fun ops hops => ?_)
    unfold Dsts at hops
    simp (maxSteps:=1000000)(dsimp:=false)(disch:=omega) only [go_sem, Φa, hP, hops]
    repeat' ((first | refine And.intro (by omega) ?_ | fail); try (with_reducible refine stI ?_); try simp (maxSteps:=1000000)(dsimp:=false)(disch:=omega) only [go_sem, Φa, hP, hops])
    refine hK7 _ _ ?_
    try clear hK7 K7
    refine SX.live [0, 5] (fun T1 hT1 => ?_)
    simp only [forall_mem_cons', forall_mem_nil', go_sem, Φa, hP] at hT1
    obtain ⟨h1_0, h1_5⟩ := hT1
    refine SX.seq_k fun K8 hK8 => ?_
    refine SX.region_xd [some 17, some 18, some 19, some 20, some 21, some 22, some 23, some 24, some 25, some 26, some 27, some 28, some 29, some 30, some 31, some 6] rfl (fun ops hops => ?_)
    unfold Dsts at hops
    refine RX.cut_k 1 fun K9 hK9 => ?_
    simp (maxSteps:=1000000)(dsimp:=false)(disch:=omega) only [go_sem, Φa, hP, h1_0, h1_5, hops]
    intro g17
    try with_reducible refine stI ?_
    try simp (maxSteps:=1000000)(dsimp:=false)(disch:=omega) only [go_sem, Φa, hP, h1_0, h1_5, hops]
    refine hK9 _ _ ?_
    try clear hK9 K9
    refine RX.marked (i := 0) (C := ints .u8 [86, 84, 82, 49]) (m := 4) (c := 4) (g := g17) rfl rfl (by simp [ev, upd_app]) (hP ▸ Tryd.underlying30) (hP ▸ Tryd.underlying5) rfl (putVC_mk (by decide) ?_)
    refine RX.done ?_
    simp (maxSteps:=1000000)(dsimp:=false)(disch:=omega) only [go_sem, Φa, hP, h1_0, h1_5, hops]
    intro g30
    try with_reducible refine stI ?_
    try simp (maxSteps:=1000000)(dsimp:=false)(disch:=omega) only [go_sem, Φa, hP, h1_0, h1_5, hops]
    refine YAppend.both (olds := ints .u8 [86, 84, 82, 49]) (ys := ints .u8 [IntKind.u8.wrap (l.length : Int), IntKind.u8.wrap (Int.fdiv (l.length : Int) (2 ^ min 8 64)), IntKind.u8.wrap (Int.fdiv (l.length : Int) (2 ^ min 16 64)), IntKind.u8.wrap (Int.fdiv (l.length : Int) (2 ^ min 24 64))]) (m := 4) (hP ▸ T.elS_30) (hP ▸ T.zr_5) rfl (SrcV.lit (by rw [hP, T.elS_30]; rfl) rfl rfl) rfl (fun j u hj => ⟨_, rfl, by rw [Addr.add_lit, Nat.zero_add]; exact Cell.at 1 rfl hj⟩) (fun h => by cases h) (by decide) (by decide) (fun h => absurd h (by decide)) ?_
    intro _ g31 cap' junk hc1 hc2 hjl
    try with_reducible refine stI ?_
    try simp (maxSteps:=1000000)(dsimp:=false)(disch:=omega) only [go_sem, Φa, hP, h1_0, h1_5, hops]
    refine hK8 _ _ ?_
    try clear hK8 K8
    refine SX.live [0, 6] (fun T2 hT2 => ?_)
    simp only [forall_mem_cons', forall_mem_nil', go_sem, Φa, hP, h1_0, h1_5] at hT2
    obtain ⟨h2_0, h2_6⟩ := hT2
    clear h1_0 h1_5 T1
    refine SX.seq_k fun K10 hK10 => ?_
    refine SX.region_d [some 7] rfl (fun ops hops => ?_)
    unfold Dsts at hops
    simp (maxSteps:=1000000)(dsimp:=false)(disch:=omega) only [go_sem, Φa, hP, h2_0, h2_6, hops]
    refine hK10 _ _ ?_
    try clear hK10 K10
    refine SX.seq_k fun K11 hK11 => ?_
    refine SX.seq_k fun K12 hK12 => ?_
    refine SX.region_d [some 32, some 33, some 34] rfl (fun ops hops => ?_)
    unfold Dsts at hops
    simp (maxSteps:=1000000)(dsimp:=false)(disch:=omega) only [go_sem, Φa, hP, h2_0, h2_6, hops]
    repeat' ((first | refine And.intro (by omega) ?_ | fail); try (with_reducible refine stI ?_); try simp (maxSteps:=1000000)(dsimp:=false)(disch:=omega) only [go_sem, Φa, hP, h2_0, h2_6, hops])
    refine hK12 _ _ ?_
    try clear hK12 K12
    refine SX.block ?_
    refine SX.less (L' := some (g31, .cells (ints .u8 (frontL l.length) ++ junk).toArray 5 (0, 0)) :: L) (Less.sublist (.cons_cons _ (.cons _ (.cons _ (List.Sublist.refl _))))) ?_
    refine SX.live [6, 7, 32, 33, 34] (fun T3 hT3 => ?_)
    simp only [forall_mem_cons', forall_mem_nil', go_sem, Φa, hP, h2_0, h2_6] at hT3
    obtain ⟨h3_6, h3_7, h3_32, h3_33, h3_34⟩ := hT3
    clear h2_0 h2_6 T2
    refine SX.loop_k (fun (ss : (Nat) × (Value) × (Slot)) T L' => (fun (k : Nat) (vo : Value) (so : Slot) => T 6 = vo ∧ T 7 = .int .u16 (nxtI (l.take k) 0) ∧ T 34 = .int .i64 (k : Int) ∧ T 32 = T3 32 ∧ T 33 = T3 33 ∧ L' = so :: L ∧ (k ≤ l.length ∧ RowI .u8 5 vo (frontL l.length ++ recsI (l.take k) 0) so)) (ss.1) (ss.2.1) (ss.2.2)) (fun (ss : (Nat) × (Value) × (Slot)) => (fun (k : Nat) (vo : Value) (so : Slot) => l.length - k) (ss.1) (ss.2.1) (ss.2.2)) (0, .slice (some ⟨g31, 0, none⟩) 8 cap', some (g31, .cells (ints .u8 (frontL l.length) ++ junk).toArray 5 (0, 0))) ?_ ?_
    · try dsimp only
      refine ⟨?_, ?_, ?_, ?_, ?_, ?_, ?_⟩
      · first | exact h3_6 | (rw [h3_6]; rfl) | (rw [h3_6]; simp; done)
      · first | exact h3_7 | (rw [h3_7]; rfl) | (rw [h3_7]; simp; done)
      · first | exact h3_34 | (rw [h3_34]; rfl) | (rw [h3_34]; simp; done)
      · rfl
      · rfl
      · rfl
      · exact ⟨Nat.zero_le _, by rw [List.take_zero]; show RowI _ _ _ (frontL l.length ++ []) _; rw [List.append_nil]; exact ⟨rfl, .inr ⟨g31, cap', junk, rfl, rfl, ⟨hc1, hc2⟩, by rw [List.length_append, hjl]; show 8 + (cap' - 8) * 1 = cap' * 1; omega⟩⟩⟩
    · intro ss T4 L4 hI K13 hK13
      obtain ⟨k, vo, so⟩ := ss
      try dsimp only at hI hK13
      simp only [h3_32, h3_33] at hI hK13
      obtain ⟨h4_6, h4_7, h4_34, h4_32, h4_33, hL4, ⟨hk, hrow⟩⟩ := hI
      replace hL4 := hL4.symm
      subst hL4
      clear h3_6 h3_7 h3_32 h3_33 h3_34 T3
      refine SX.seq_k fun K14 hK14 => ?_
      refine SX.region_d [some 35] rfl (fun ops hops => ?_)
      unfold Dsts at hops
      simp (maxSteps:=1000000)(dsimp:=false)(disch:=omega) only [go_sem, Φa, hP, h4_6, h4_7, h4_34, h4_32, h4_33, hops]
      repeat' ((first | refine And.intro (by omega) ?_ | fail); try (with_reducible refine stI ?_); try simp (maxSteps:=1000000)(dsimp:=false)(disch:=omega) only [go_sem, Φa, hP, h4_6, h4_7, h4_34, h4_32, h4_33, hops])
      refine hK14 _ _ ?_
      try clear hK14 K14
      refine SX.seq_k fun K15 hK15 => ?_
      refine SX.cond_k fun X16 Y16 hX16 hY16 => ?_
      simp (maxSteps:=1000000)(dsimp:=false)(disch:=omega) only [go_sem, Φa, hP, h4_6, h4_7, h4_34, h4_32, h4_33, condVC]
      refine ⟨fun hc35 => hX16 ?_, fun hc35 => hY16 ?_⟩
      · clear hX16 hY16 X16 Y16
        refine SX.skip ?_
        try simp only [andThen_normal, andThen_ret, andThen_exit, inBlk_normal, inBlk_ret, inBlk_exit, Nat.reduceEqDiff, if_true, if_false, ↓reduceIte]
        refine hK15 _ _ ?_
        try clear hK15 K15
        refine SX.seq_k fun K17 hK17 => ?_
        refine SX.block ?_
        refine SX.seq_k fun K18 hK18 => ?_
        have hkl : k < l.length := by omega
        have hck := hA k _ (getD_get (d := default) hkl)
        refine SX.region_d [some 36, some 37, some 9, none] rfl (fun ops hops => ?_)
        unfold Dsts at hops
        simp (maxSteps:=1000000)(dsimp:=false)(disch:=omega) only [go_sem, Φa, hP, h4_6, h4_7, h4_34, h4_32, h4_33, hops, ia_at e1]
        refine ⟨_, Cell.cons _ (hck 0 _ rfl), _, Cell.cons _ (hck 1 _ rfl), _, Cell.cons _ (hck 2 _ rfl), _, Cell.cons _ (hck 3 _ rfl), _, Cell.cons _ (hck 4 _ rfl), _, Cell.cons _ (hck 5 _ rfl), _, Cell.cons _ (hck 6 _ rfl), _, Cell.cons _ (hck 7 _ rfl), ?_⟩
        try with_reducible refine stI ?_
        try simp (maxSteps:=1000000)(dsimp:=false)(disch:=omega) only [go_sem, Φa, hP, h4_6, h4_7, h4_34, h4_32, h4_33, hops, ia_at e1]
        intro b9
        try with_reducible refine stI ?_
        try simp (maxSteps:=1000000)(dsimp:=false)(disch:=omega) only [go_sem, Φa, hP, h4_6, h4_7, h4_34, h4_32, h4_33, hops, ia_at e1]
        refine ⟨0, _, _, _, rfl, (by show 8 ≤ 8; decide), .inr (by decide), ?_⟩
        try with_reducible refine stI ?_
        try simp (maxSteps:=1000000)(dsimp:=false)(disch:=omega) only [go_sem, Φa, hP, h4_6, h4_7, h4_34, h4_32, h4_33, hops, ia_at e1]
        refine hK18 _ _ ?_
        try clear hK18 K18
        refine SX.seq_k fun K19 hK19 => ?_
        have hpl : (recsI (l.take k) 0).length ≤ 5 * l.length := by
          have h1 := recsI_len (l.take k) 0
          have h2 : (l.take k).length ≤ l.length := by rw [List.length_take]; exact Nat.min_le_right _ _
          omega
        have hfr : (frontL l.length).length = 8 := rfl
        refine SX.region_d [some 38, some 39, some 40, some 41, some 6] rfl (fun ops hops => ?_)
        unfold Dsts at hops
        simp (maxSteps:=1000000)(dsimp:=false)(disch:=omega) only [go_sem, Φa, hP, h4_6, h4_7, h4_34, h4_32, h4_33, hops]
        rw [show (#[Value.int .u8 (l.getD k default).code, .int .u16 (l.getD k default).ad, .int .u8 (l.getD k default).data, .bool (l.getD k default).rd, .bool (l.getD k default).wr, .int .u8 (l.getD k default).port, .bool (l.getD k default).q, .int .u8 (l.getD k default).md] : Array Value) = (l.getD k default).cells.toArray from rfl]
        refine ⟨_, Cell.at 0 rfl (show (Rc.cells _)[0]? = _ from rfl), _, Cell.at 0 rfl (show (Rc.cells _)[1]? = _ from rfl), _, Cell.at 0 rfl (show (Rc.cells _)[2]? = _ from rfl), _, Cell.at 0 rfl (show (Rc.cells _)[3]? = _ from rfl), _, Cell.at 0 rfl (show (Rc.cells _)[4]? = _ from rfl), _, Cell.at 0 rfl (show (Rc.cells _)[5]? = _ from rfl), _, Cell.at 0 rfl (show (Rc.cells _)[6]? = _ from rfl), _, Cell.at 0 rfl (show (Rc.cells _)[7]? = _ from rfl), ?_⟩
        try with_reducible refine stI ?_
        try simp (maxSteps:=1000000)(dsimp:=false)(disch:=omega) only [go_sem, Φa, hP, h4_6, h4_7, h4_34, h4_32, h4_33, hops]
        refine SCall.mono (pack_spec (i := 1) hP rfl hrow (by rw [List.length_append]; omega)) ?_
        rintro v2 L_ ⟨s2, rfl, hrow2⟩
        try with_reducible refine stI ?_
        try simp (maxSteps:=1000000)(dsimp:=false)(disch:=omega) only [go_sem, Φa, hP, h4_6, h4_7, h4_34, h4_32, h4_33, hops]
        refine hK19 _ _ ?_
        try clear hK19 K19
        refine SX.live [6, 9, 32, 33, 34] (fun T5 hT5 => ?_)
        simp only [forall_mem_cons', forall_mem_nil', go_sem, Φa, hP, h4_6, h4_7, h4_34, h4_32, h4_33] at hT5
        obtain ⟨h5_6, h5_9, h5_32, h5_33, h5_34⟩ := hT5
        clear h4_6 h4_7 h4_34 h4_32 h4_33 T4
        refine SX.region_d [some 42, some 43, some 44, some 7] rfl (fun ops hops => ?_)
        unfold Dsts at hops
        simp (maxSteps:=1000000)(dsimp:=false)(disch:=omega) only [go_sem, Φa, hP, h5_6, h5_9, h5_32, h5_33, h5_34, hops]
        refine ⟨_, Cell.at 0 rfl (show (Rc.cells _)[1]? = _ from rfl), ?_⟩
        try with_reducible refine stI ?_
        try simp (maxSteps:=1000000)(dsimp:=false)(disch:=omega) only [go_sem, Φa, hP, h5_6, h5_9, h5_32, h5_33, h5_34, hops]
        refine SCall.mono (after_spec hP) ?_
        rintro v_ L_ ⟨hv_, hL_⟩
        rw [hv_, hL_]
        clear hv_ hL_ v_ L_
        try with_reducible refine stI ?_
        try simp (maxSteps:=1000000)(dsimp:=false)(disch:=omega) only [go_sem, Φa, hP, h5_6, h5_9, h5_32, h5_33, h5_34, hops]
        refine hK17 _ _ ?_
        try clear hK17 K17
        refine SX.region_d [some 45, some 34] rfl (fun ops hops => ?_)
        unfold Dsts at hops
        simp (maxSteps:=1000000)(dsimp:=false)(disch:=omega) only [go_sem, Φa, hP, h5_6, h5_9, h5_32, h5_33, h5_34, hops]
        repeat' ((first | refine And.intro (by omega) ?_ | fail); try (with_reducible refine stI ?_); try simp (maxSteps:=1000000)(dsimp:=false)(disch:=omega) only [go_sem, Φa, hP, h5_6, h5_9, h5_32, h5_33, h5_34, hops])
        refine hK13 (k + 1, v2, s2) _ (s2 :: L) _ (by first | exact Less.refl _ | exact Less.drop _ _ | exact Less.drops (Less.drop _ _) | exact Less.drops (Less.drops (Less.drop _ _)) | exact Less.drops (Less.drops (Less.drops (Less.drop _ _))) | exact Less.drops (Less.drops (Less.drops (Less.drops (Less.drop _ _))))) ?_ ?_
        · try dsimp only
          refine ⟨?_, ?_, ?_, ?_, ?_, ?_, ?_⟩
          · simp (maxSteps:=1000000)(dsimp:=false)(disch:=omega) only [go_sem, Φa, hP, h5_6, h5_9, h5_32, h5_33, h5_34]
            first | done | rfl | skip
          · simp (maxSteps:=1000000)(dsimp:=false)(disch:=omega) only [go_sem, Φa, hP, h5_6, h5_9, h5_32, h5_33, h5_34]
            rw [nxtI_take hkl]
          · simp (maxSteps:=1000000)(dsimp:=false)(disch:=omega) only [go_sem, Φa, hP, h5_6, h5_9, h5_32, h5_33, h5_34]
            first | done | rfl | skip
          · simp (maxSteps:=1000000)(dsimp:=false)(disch:=omega) only [go_sem, Φa, hP, h5_6, h5_9, h5_32, h5_33, h5_34]
          · simp (maxSteps:=1000000)(dsimp:=false)(disch:=omega) only [go_sem, Φa, hP, h5_6, h5_9, h5_32, h5_33, h5_34]
          · rfl
          · exact ⟨by omega, by rw [recsI_take hkl, ← List.append_assoc]; exact hrow2⟩
        · (try dsimp only); omega
      · clear hX16 hY16 X16 Y16
        refine SX.exit ?_
        try simp only [andThen_normal, andThen_ret, andThen_exit, inBlk_normal, inBlk_ret, inBlk_exit, Nat.reduceEqDiff, if_true, if_false, ↓reduceIte]
        refine hK11 _ _ ?_
        try clear hK11 K11
        refine SX.seq_k fun K20 hK20 => ?_
        obtain rfl : k = l.length := by omega
        rw [List.take_length] at hrow
        refine SX.region_d [some 46, some 2, some 3] rfl (fun ops hops => ?_)
        unfold Dsts at hops
        simp (maxSteps:=1000000)(dsimp:=false)(disch:=omega) only [go_sem, Φa, hP, h4_6, h4_7, h4_34, h4_32, h4_33, hops]
        refine hK20 _ _ ?_
        try clear hK20 K20
        refine SX.ret ?_
        simp only [andThen_normal, andThen_ret, andThen_exit, inBlk_normal, inBlk_ret, inBlk_exit, Nat.reduceEqDiff, if_true, if_false, ↓reduceIte, retQ_ret]
        try simp only [res0, res1, res2, res3, stK_e, go_sem, Φa, hP, h4_6, h4_7, h4_34, h4_32, h4_33]
        have hp : packP l = (frontL l.length ++ recsI l 0, 0) := if_pos hc0
        exact ⟨_, _, Less.refl _, rfl, vo, so, by rw [hp], rfl, by rw [hp]; exact hrow⟩

end Go.Proofs.YtcenlgofldnfcaaDoor
set_option linter.unusedVariables false
set_option linter.unusedSimpArgs false
namespace Go.Proofs.YtcenlgofldnfcaaDoor
open Go.RowKit Go.SX Go.Proofs

/-! The document's examples. -/
def firstL : List Rc := [⟨0, 0, 196, true, false, 0, false, 0⟩, ⟨1, 4779, 15, false, true, 2, true, 0⟩]
theorem firstL_ok : ∀ r ∈ firstL, OkR r := fun r hr => by
  simp only [firstL, List.mem_cons, List.not_mem_nil, or_false] at hr
  rcases hr with rfl | rfl <;> exact ⟨by decide, by decide, by decide, by decide, by decide⟩
theorem print_first : printP firstL = (⟨#[115,48,32,48,48,48,48,32,99,52,32,114,10,115,49,32,49,50,97,98,32,48,102,32,119,32,110,50,32,113,10]⟩, 0) := by kernel_rfl
theorem pack_first : packP firstL = ([86,84,82,49,2,0,0,0,4,196,153,2,171,18,15], 0) := by kernel_rfl
theorem pack_txt : txt [86,84,82,49,2,0,0,0,4,196,153,2,171,18,15] = ⟨#[86,84,82,49,2,0,0,0,4,196,153,2,171,18,15]⟩ := by kernel_rfl
theorem unp_short : unpP [86,84,82,49,1,0,0,0,128,0,0,0,0] = ([], 91, 8) := by kernel_rfl
set_option maxHeartbeats 1000000 in
set_option maxRecDepth 100000 in
theorem first_spec {Γ : Ctx} (hP : Γ.P = Tryd.prog) {L : Hp}  :
    SCall Γ 26 #[] L (fun v L' => ∃ g, v = .slice (some ⟨g, 0, none⟩) 2 2 ∧ L' = some (g, .cells (firstL.flatMap Rc.cells).toArray 46 (0, 0)) :: L) := by
  refine SCall.enter (n := 4) (res1 0) (hP ▸ Tryd.func26) rfl rfl (by simp) (res1_ok rfl) ?_
  refine SX.seq_k fun K1 hK1 => ?_
  refine SX.region_d [some 0] rfl (fun ops hops => ?_)
  unfold Dsts at hops
  simp (maxSteps := 1000000) (dsimp := false) (disch := omega) only [go_sem, ia_someH, hP, hops]
  refine hK1 _ _ ?_
  try clear hK1 K1
  refine SX.seq_k fun K2 hK2 => ?_
  refine SX.region_d [some 1, some 2, some 3, some 0] rfl (fun ops hops => ?_)
  unfold Dsts at hops
  simp (maxSteps := 1000000) (dsimp := false) (disch := omega) only [go_sem, ia_someH, hP, hops]
  intro g1
  try with_reducible refine stI ?_
  try simp (maxSteps := 1000000) (dsimp := false) (disch := omega) only [go_sem, ia_someH, hP, hops]
  refine hK2 _ _ ?_
  try clear hK2 K2
  refine SX.ret ?_
  simp only [andThen_normal, andThen_ret, andThen_exit, inBlk_normal, inBlk_ret, inBlk_exit, Nat.reduceEqDiff, if_true, if_false, ↓reduceIte, retQ_ret]
  try simp only [res0, res1, res2, res3, stK_e, go_sem, ia_someH, hP]
  exact ⟨_, _, Less.refl _, rfl, g1, rfl, rfl⟩
set_option maxHeartbeats 1000000 in
set_option maxRecDepth 100000 in
theorem awake_spec {Γ : Ctx} (hP : Γ.P = Tryd.prog) {L : Hp} (hM : MD Γ) :
    SCall Γ 10 #[] L (fun v L' => v = .bool true ∧ L' = L) := by
  refine SCall.enter (n := 52) (res1 0) (hP ▸ Tryd.func10) rfl rfl (by simp) (res1_ok rfl) ?_
  refine SX.seq_k fun K1 hK1 => ?_
  refine SX.region_d [some 0] rfl (fun ops hops => ?_)
  unfold Dsts at hops
  simp (maxSteps := 1000000) (dsimp := false) (disch := omega) only [go_sem, ia_someH, hP, hops]
  refine hK1 _ _ ?_
  try clear hK1 K1
  refine SX.seq_k fun K2 hK2 => ?_
  refine SX.region_d [some 9, some 10, some 8, some 11, some 12, some 1, some 2] rfl (fun ops hops => ?_)
  unfold Dsts at hops
  simp (maxSteps := 1000000) (dsimp := false) (disch := omega) only [go_sem, ia_someH, hP, hops]
  refine SCall.mono (first_spec hP) ?_
  rintro v_ L_ ⟨ga, rfl, rfl⟩
  try with_reducible refine stI ?_
  try simp (maxSteps := 1000000) (dsimp := false) (disch := omega) only [go_sem, ia_someH, hP, hops]
  have hfga : SlC (Cell Γ (some (ga, .cells (firstL.flatMap Rc.cells).toArray 46 (0, 0)) :: L)) (.slice (some ⟨ga, 0, none⟩) 2 2) firstL := RowL.sl (i := 0) Rc.len (Row.lit (n := 2) rfl (by decide)) rfl
  refine SCall.mono (Print_spec hP hfga firstL_ok hM) ?_
  rintro v_ L_ ⟨hv_, hL_⟩
  rw [hv_, hL_]
  clear hv_ hL_ v_ L_
  rw [print_first]
  try with_reducible refine stI ?_
  try simp (maxSteps := 1000000) (dsimp := false) (disch := omega) only [go_sem, ia_someH, hP, hops]
  refine hK2 _ _ ?_
  try clear hK2 K2
  refine SX.seq_k fun K3 hK3 => ?_
  refine SX.less (Less.drop _ _) ?_
  refine SX.region_d [some 14, some 15, some 13, some 16, some 17, some 3, some 4] rfl (fun ops hops => ?_)
  unfold Dsts at hops
  simp (maxSteps := 1000000) (dsimp := false) (disch := omega) only [go_sem, ia_someH, hP, hops]
  refine SCall.mono (first_spec hP) ?_
  rintro v_ L_ ⟨gb, rfl, rfl⟩
  try with_reducible refine stI ?_
  try simp (maxSteps := 1000000) (dsimp := false) (disch := omega) only [go_sem, ia_someH, hP, hops]
  have hfgb : SlC (Cell Γ (some (gb, .cells (firstL.flatMap Rc.cells).toArray 46 (0, 0)) :: L)) (.slice (some ⟨gb, 0, none⟩) 2 2) firstL := RowL.sl (i := 0) Rc.len (Row.lit (n := 2) rfl (by decide)) rfl
  refine SCall.mono (Pack_spec hP hfgb) ?_
  rintro v_ L_ ⟨vp, sp, rfl, rfl, hrow⟩
  rw [pack_first] at hrow ⊢
  obtain ⟨pA, pC, rfl, _, _⟩ := Row.form hrow
  try with_reducible refine stI ?_
  try simp (maxSteps := 1000000) (dsimp := false) (disch := omega) only [go_sem, ia_someH, hP, hops]
  refine hK3 _ _ ?_
  try clear hK3 K3
  refine SX.live [1, 2, 3, 4] (fun T1 hT1 => ?_)
  simp only [forall_mem_cons', forall_mem_nil', go_sem, ia_someH, hP] at hT1
  obtain ⟨h1_1, h1_2, h1_3, h1_4⟩ := hT1
  refine SX.seq_k fun K4 hK4 => ?_
  refine SX.region_d [some 19, some 20, some 18, some 21, some 22, some 23, some 5, some 6, some 7] rfl (fun ops hops => ?_)
  unfold Dsts at hops
  simp (maxSteps := 1000000) (dsimp := false) (disch := omega) only [go_sem, ia_someH, hP, h1_1, h1_2, h1_3, h1_4, hops]
  intro g19
  try with_reducible refine stI ?_
  try simp (maxSteps := 1000000) (dsimp := false) (disch := omega) only [go_sem, ia_someH, hP, h1_1, h1_2, h1_3, h1_4, hops]
  refine SCall.mono (Unpack_spec (xs := [86,84,82,49,1,0,0,0,128,0,0,0,0]) hP (SlI.own 0 rfl rfl (Nat.le_refl _)) (by decide) (by show ∀ x ∈ _, 0 ≤ x ∧ x ≤ 255; decide)) ?_
  rintro v_ L_ ⟨vu, su, rfl, rfl, hru⟩
  rw [unp_short] at hru ⊢
  obtain ⟨uA, uC, rfl, _, _⟩ := Row.form hru
  try with_reducible refine stI ?_
  try simp (maxSteps := 1000000) (dsimp := false) (disch := omega) only [go_sem, ia_someH, hP, h1_1, h1_2, h1_3, h1_4, hops]
  refine hK4 _ _ ?_
  try clear hK4 K4
  refine SX.live [1, 2, 3, 4, 5, 6, 7] (fun T2 hT2 => ?_)
  simp only [forall_mem_cons', forall_mem_nil', go_sem, ia_someH, hP, h1_1, h1_2, h1_3, h1_4] at hT2
  obtain ⟨h2_1, h2_2, h2_3, h2_4, h2_5, h2_6, h2_7⟩ := hT2
  clear h1_1 h1_2 h1_3 h1_4 T1
  refine SX.seq_k fun K5 hK5 => ?_
  refine SX.region_d [some 24, some 25, some 26, some 27, some 28, some 29, some 30, some 31, some 32, some 33, some 34, some 35, some 36, some 37, some 38, some 39, some 40, some 41, some 42, some 43, some 44, some 45, some 46, some 47, some 48, some 49, some 50, some 51, some 0] rfl (fun ops hops => ?_)
  unfold Dsts at hops
  simp (maxSteps := 1000000) (dsimp := false) (disch := omega) only [go_sem, ia_someH, hP, h2_1, h2_2, h2_3, h2_4, h2_5, h2_6, h2_7, hops, pack_txt]
  refine conv_row (l := [86,84,82,49,2,0,0,0,4,196,153,2,171,18,15]) (hP ▸ Tryd.underlying30) (hP ▸ Tryd.underlying9) (hP ▸ Tryd.underlying5) (RowI.sl (i := 2) (show RowI .u8 5 (.slice pA 15 pC) [86,84,82,49,2,0,0,0,4,196,153,2,171,18,15] sp from hrow) rfl) (by show ∀ x ∈ _, 0 ≤ x ∧ x ≤ 255; decide) ?_
  try with_reducible refine stI ?_
  try simp (maxSteps := 1000000) (dsimp := false) (disch := omega) only [go_sem, ia_someH, hP, h2_1, h2_2, h2_3, h2_4, h2_5, h2_6, h2_7, hops, pack_txt]
  refine hK5 _ _ ?_
  try clear hK5 K5
  refine SX.ret ?_
  simp only [andThen_normal, andThen_ret, andThen_exit, inBlk_normal, inBlk_ret, inBlk_exit, Nat.reduceEqDiff, if_true, if_false, ↓reduceIte, retQ_ret]
  try simp only [res0, res1, res2, res3, stK_e, go_sem, ia_someH, hP, h2_1, h2_2, h2_3, h2_4, h2_5, h2_6, h2_7]
  exact ⟨_, _, Less.drops (Less.drops (Less.drops (Less.drop _ _))), rfl, rfl, rfl⟩

end Go.Proofs.YtcenlgofldnfcaaDoor
set_option linter.unusedVariables false
set_option linter.unusedSimpArgs false
namespace Go.Proofs.YtcenlgofldnfcaaDoor
open Go.RowKit Go.SX Go.Proofs
end Go.Proofs.YtcenlgofldnfcaaDoor
set_option linter.unusedVariables false
set_option linter.unusedSimpArgs false
namespace Go.Proofs.YtcenlgofldnfcaaDoor
open Go.RowKit Go.SX Go.Proofs
open Go.SX renaming ia_someH → Φa

/-! Where two traces part. -/
theorem eqT_46 : EqT Tryd.prog 46 [.i .u8, .i .u16, .i .u8, .b, .b, .i .u8, .b, .i .u8] := ⟨by kernel_rfl, by kernel_rfl, by kernel_rfl, by kernel_rfl, by kernel_rfl⟩
theorem wf8 {n : Int} (h : 0 ≤ n ∧ n ≤ 255) : (Lit.int .u8 n).wf = true := by simp only [wf_u8, Bool.and_eq_true, decide_eq_true_eq]; omega
theorem okV_Rc {r : Rc} (h : OkR r) : okVs [.i .u8, .i .u16, .i .u8, .b, .b, .i .u8, .b, .i .u8] r.cells = true := by
  have h1 := wf8 h.code
  have h3 := wf8 h.data
  have h4 := wf8 h.port
  have h5 := wf8 h.md
  have h2 : (Lit.int .u16 r.ad).wf = true := by have := h.ad; simp only [wf_u16, Bool.and_eq_true, decide_eq_true_eq]; omega
  show okVs _ [.int .u8 r.code, .int .u16 r.ad, .int .u8 r.data, .bool r.rd, .bool r.wr, .int .u8 r.port, .bool r.q, .int .u8 r.md] = true
  simp only [okVs, okV, h1, h2, h3, h4, h5, decide_true, Bool.and_true, Bool.true_and, and_self]
instance : DecidableEq Rc := fun a b => decidable_of_iff (a.code = b.code ∧ a.ad = b.ad ∧ a.data = b.data ∧ a.rd = b.rd ∧ a.wr = b.wr ∧ a.port = b.port ∧ a.q = b.q ∧ a.md = b.md) (by cases a; cases b; simp)
theorem Rc.eq_cells {a b : Rc} : a.cells.map litV = b.cells.map litV ↔ a = b := by
  cases a; cases b
  simp [Rc.cells, litV]
def apP : List Rc → List Rc → Int → Int
  | [], [], _ => -1
  | [], _ :: _, k => k
  | _ :: _, [], k => k
  | x :: a, y :: b, k => if x = y then apP a b (k + 1) else k
theorem ap_step {a b : List Rc} {k : Nat} (h1 : k < a.length) (h2 : k < b.length) (h : a.getD k default = b.getD k default) : apP (a.drop k) (b.drop k) (k : Int) = apP (a.drop (k + 1)) (b.drop (k + 1)) ((k + 1 : Nat) : Int) := by
  rw [List.drop_eq_getElem_cons h1, List.drop_eq_getElem_cons h2, apP, if_pos]
  · rfl
  · simpa [List.getD_eq_getElem?_getD, List.getElem?_eq_getElem h1, List.getElem?_eq_getElem h2] using h
theorem ap_here {a b : List Rc} {k : Nat} (h1 : k < a.length) (h2 : k < b.length) (h : ¬ a.getD k default = b.getD k default) : apP (a.drop k) (b.drop k) (k : Int) = (k : Int) := by
  rw [List.drop_eq_getElem_cons h1, List.drop_eq_getElem_cons h2, apP, if_neg]
  simpa [List.getD_eq_getElem?_getD, List.getElem?_eq_getElem h1, List.getElem?_eq_getElem h2] using h
theorem ap_endb {a b : List Rc} {k : Nat} (h1 : k < a.length) (h2 : k = b.length) : apP (a.drop k) (b.drop k) (k : Int) = (k : Int) := by
  rw [List.drop_eq_getElem_cons h1, List.drop_of_length_le (by omega : b.length ≤ k), apP]
theorem ap_enda {a b : List Rc} {k : Nat} (h1 : k = a.length) (h2 : k < b.length) : apP (a.drop k) (b.drop k) (k : Int) = (k : Int) := by
  rw [List.drop_of_length_le (by omega : a.length ≤ k), List.drop_eq_getElem_cons h2, apP]
theorem ap_both {a b : List Rc} {k : Nat} (h1 : k = a.length) (h2 : k = b.length) : apP (a.drop k) (b.drop k) (k : Int) = -1 := by
  rw [List.drop_of_length_le (by omega : a.length ≤ k), List.drop_of_length_le (by omega : b.length ≤ k), apP]
theorem ap_same : ∀ (a : List Rc) (k : Int), apP a a k = -1
  | [], _ => rfl
  | x :: a, k => by rw [apP, if_pos rfl, ap_same a]
theorem ap_comm : ∀ (a b : List Rc) (k : Int), apP a b k = apP b a k
  | [], [], _ => rfl
  | [], _ :: _, _ => rfl
  | _ :: _, [], _ => rfl
  | x :: a, y :: b, k => by
    rw [apP, apP]
    by_cases h : x = y
    · rw [if_pos h, if_pos h.symm, ap_comm a b]
    · rw [if_neg h, if_neg (fun e => h e.symm)]
theorem ap_neg : ∀ (a b : List Rc) (k : Int), 0 ≤ k → (apP a b k < 0 ↔ a = b)
  | [], [], k, _ => by simp [apP]
  | [], _ :: _, k, h => by simp [apP]; omega
  | _ :: _, [], k, h => by simp [apP]; omega
  | x :: a, y :: b, k, h => by
    rw [apP]
    by_cases e : x = y
    · rw [if_pos e, ap_neg a b (k + 1) (by omega), e]; simp
    · rw [if_neg e]; simp [e]; omega
set_option maxHeartbeats 1000000 in
set_option maxRecDepth 100000 in
theorem refApart_spec {Γ : Ctx} (hP : Γ.P = Tryd.prog) {L : Hp} {va vb : Value} {a b : List Rc} (ha : SlC (Cell Γ L) va a) (hb : SlC (Cell Γ L) vb b) (hao : ∀ r ∈ a, OkR r) (hbo : ∀ r ∈ b, OkR r) (hal : a.length ≤ 9223372036854775807) (hbl : b.length ≤ 9223372036854775807) :
    SCall Γ 22 #[va, vb] L (fun v L' => v = .int .i64 (apP a b 0) ∧ L' = L) := by
  obtain ⟨A, c, rfl, hc⟩ := Sl.shape ha
  obtain ⟨B, d, rfl, hd⟩ := Sl.shape hb
  obtain ⟨a1, e1, _, hA⟩ := Sl.at1 ha
  obtain ⟨b1, e2, _, hB⟩ := Sl.at1 hb
  refine SCall.enter (n := 38) (res1 4) (hP ▸ Tryd.func22) rfl rfl (by simp) (res1_ok rfl) ?_
  refine SX.seq_k fun K1 hK1 => ?_
  refine SX.region_d [some 4] rfl (fun ops hops => ?_)
  unfold Dsts at hops
  simp (maxSteps:=1000000)(dsimp:=false)(disch:=omega) only [go_sem, Φa, hP, hops]
  refine hK1 _ _ ?_
  try clear hK1 K1
  refine SX.seq_k fun K2 hK2 => ?_
  refine SX.seq_k fun K3 hK3 => ?_
  refine SX.region_d [some 5] rfl (fun ops hops => ?_)
  unfold Dsts at hops
  simp (maxSteps:=1000000)(dsimp:=false)(disch:=omega) only [go_sem, Φa, hP, hops]
  refine hK3 _ _ ?_
  try clear hK3 K3
  refine SX.block ?_
  refine SX.live [0, 1, 5] (fun T1 hT1 => ?_)
  simp only [forall_mem_cons', forall_mem_nil', go_sem, Φa, hP] at hT1
  obtain ⟨h1_0, h1_1, h1_5⟩ := hT1
  refine SX.loop_k (fun (ss : (Nat)) T L' => (fun (i : Nat) => T 5 = .int .i64 (i : Int) ∧ T 0 = T1 0 ∧ T 1 = T1 1 ∧ L' = L ∧ (i ≤ a.length ∧ i ≤ b.length ∧ apP a b 0 = apP (a.drop i) (b.drop i) (i : Int))) (ss)) (fun (ss : (Nat)) => (fun (i : Nat) => a.length - i) (ss)) 0 ?_ ?_
  · try dsimp only
    refine ⟨?_, ?_, ?_, ?_, ?_⟩
    · first | exact h1_5 | (rw [h1_5]; rfl) | (rw [h1_5]; simp; done)
    · rfl
    · rfl
    · rfl
    · exact ⟨Nat.zero_le _, Nat.zero_le _, rfl⟩
  · intro i T2 L2 hI K4 hK4
    try dsimp only at hI hK4
    simp only [h1_0, h1_1] at hI hK4
    obtain ⟨h2_5, h2_0, h2_1, hL2, ⟨hi, hib0, hap⟩⟩ := hI
    replace hL2 := hL2.symm
    subst hL2
    clear h1_0 h1_1 h1_5 T1
    refine SX.seq_k fun K5 hK5 => ?_
    refine SX.seq_k fun K6 hK6 => ?_
    refine SX.region_xd [some 6, some 7, some 8, some 9, some 10, some 11, some 12, some 13, some 14, some 15] rfl (fun ops hops => ?_)
    unfold Dsts at hops
    refine RX.live [0, 1, 5] (fun T3 hT3 => ?_)
    simp only [forall_mem_cons', forall_mem_nil', go_sem, Φa, hP, h2_5, h2_0, h2_1] at hT3
    obtain ⟨h3_0, h3_1, h3_5⟩ := hT3
    clear h2_5 h2_0 h2_1 T2
    refine RX.join 10 (fun (ss : Unit) T L' => T 15 = .bool (decide (i < a.length) && decide (i < b.length)) ∧ T 0 = T3 0 ∧ T 1 = T3 1 ∧ T 5 = T3 5 ∧ L' = L ∧ (True)) (fun K7 hK7 => ?_) ?_
    · simp only [h3_0, h3_1, h3_5] at hK7
      simp (maxSteps:=1000000)(dsimp:=false)(disch:=omega) only [go_sem, Φa, hP, h3_0, h3_1, h3_5, hops]
      repeat' (first | refine iteB (fun hg => ?_) (fun hg => ?_) | refine iteI (fun hg => ?_) (fun hg => ?_) | ((first | refine And.intro (by omega) ?_ | fail); try (with_reducible refine stI ?_); try simp (maxSteps:=1000000)(dsimp:=false)(disch:=omega) only [go_sem, Φa, hP, h3_0, h3_1, h3_5, hops]) | fail)
      all_goals
        refine hK7 () _ (L) _ (by first | exact Less.refl _ | exact Less.drop _ _ | exact Less.drops (Less.drop _ _) | exact Less.drops (Less.drops (Less.drop _ _)) | exact Less.drops (Less.drops (Less.drops (Less.drop _ _))) | exact Less.drops (Less.drops (Less.drops (Less.drops (Less.drop _ _))))) ?_
        try dsimp only
        refine ⟨?_, ?_, ?_, ?_, ?_, ?_⟩
        · simp (maxSteps:=1000000)(dsimp:=false)(disch:=omega) only [go_sem, Φa, hP, h3_0, h3_1, h3_5]
          first | done | rfl | (refine congrArg Value.bool ?_; rw [Bool.eq_iff_iff]; simp; first | done | omega)
        · simp (maxSteps:=1000000)(dsimp:=false)(disch:=omega) only [go_sem, Φa, hP, h3_0, h3_1, h3_5]
        · simp (maxSteps:=1000000)(dsimp:=false)(disch:=omega) only [go_sem, Φa, hP, h3_0, h3_1, h3_5]
        · simp (maxSteps:=1000000)(dsimp:=false)(disch:=omega) only [go_sem, Φa, hP, h3_0, h3_1, h3_5]
        · rfl
        · trivial
    · intro ss T4 L4 hI
      simp only [h3_0, h3_1, h3_5] at hI 
      obtain ⟨h4_15, h4_0, h4_1, h4_5, hL4, hinv⟩ := hI
      replace hL4 := hL4.symm
      subst hL4
      clear h3_0 h3_1 h3_5 T3
      refine RX.done ?_
      simp (maxSteps:=1000000)(dsimp:=false)(disch:=omega) only [go_sem, Φa, hP, h4_15, h4_0, h4_1, h4_5, hops]
      refine hK6 _ _ ?_
      try clear hK6 K6
      refine SX.cond_k fun X8 Y8 hX8 hY8 => ?_
      simp (maxSteps:=1000000)(dsimp:=false)(disch:=omega) only [go_sem, Φa, hP, h4_15, h4_0, h4_1, h4_5, condVC]
      refine ⟨fun hc15 => hX8 ?_, fun hc15 => hY8 ?_⟩
      · clear hX8 hY8 X8 Y8
        refine SX.skip ?_
        try simp only [andThen_normal, andThen_ret, andThen_exit, inBlk_normal, inBlk_ret, inBlk_exit, Nat.reduceEqDiff, if_true, if_false, ↓reduceIte]
        refine hK5 _ _ ?_
        try clear hK5 K5
        refine SX.seq_k fun K9 hK9 => ?_
        refine SX.block ?_
        refine SX.seq_k fun K10 hK10 => ?_
        have hia : i < a.length := by simp only [Bool.and_eq_true, decide_eq_true_eq] at hc15; exact hc15.1
        have hib : i < b.length := by simp only [Bool.and_eq_true, decide_eq_true_eq] at hc15; exact hc15.2
        have hck := hA i _ (getD_get (d := default) hia)
        have kck := hB i _ (getD_get (d := default) hib)
        have hra := hao _ (getD_mem hia)
        have hrb := hbo _ (getD_mem hib)
        refine SX.quiet_d (hP ▸ T.mixed) (by kernel_rfl) [some 18, some 19, some 20, some 21, some 22, some 23, some 24, some 25, some 26] rfl (fun ops hops => ?_)
        unfold Dsts at hops
        simp (maxSteps:=1000000)(dsimp:=false)(disch:=omega) only [go_sem, Φa, hP, h4_15, h4_0, h4_1, h4_5, hops, ia_at e1, ia_at e2]
        refine ⟨_, hck 0 _ rfl, _, hck 1 _ rfl, _, hck 2 _ rfl, _, hck 3 _ rfl, _, hck 4 _ rfl, _, hck 5 _ rfl, _, hck 6 _ rfl, _, hck 7 _ rfl, ?_⟩
        try with_reducible refine stI ?_
        try simp (maxSteps:=1000000)(dsimp:=false)(disch:=omega) only [go_sem, Φa, hP, h4_15, h4_0, h4_1, h4_5, hops, ia_at e1, ia_at e2]
        refine ⟨_, kck 0 _ rfl, _, kck 1 _ rfl, _, kck 2 _ rfl, _, kck 3 _ rfl, _, kck 4 _ rfl, _, kck 5 _ rfl, _, kck 6 _ rfl, _, kck 7 _ rfl, ?_⟩
        try with_reducible refine stI ?_
        try simp (maxSteps:=1000000)(dsimp:=false)(disch:=omega) only [go_sem, Φa, hP, h4_15, h4_0, h4_1, h4_5, hops, ia_at e1, ia_at e2]
        refine aggEq_of eqT_46 (okV_Rc hra) (okV_Rc hrb) (fun r hr => ?_)
        have hr' : r = true ↔ a.getD i default = b.getD i default := hr.trans Rc.eq_cells
        try with_reducible refine stI ?_
        try simp (maxSteps:=1000000)(dsimp:=false)(disch:=omega) only [go_sem, Φa, hP, h4_15, h4_0, h4_1, h4_5, hops, ia_at e1, ia_at e2]
        refine hK10 _ _ ?_
        try clear hK10 K10
        refine SX.live [0, 1, 5, 26] (fun T5 hT5 => ?_)
        simp only [forall_mem_cons', forall_mem_nil', go_sem, Φa, hP, h4_15, h4_0, h4_1, h4_5] at hT5
        obtain ⟨h5_0, h5_1, h5_5, h5_26⟩ := hT5
        clear h4_15 h4_0 h4_1 h4_5 T4
        refine SX.cond_k fun X11 Y11 hX11 hY11 => ?_
        simp (maxSteps:=1000000)(dsimp:=false)(disch:=omega) only [go_sem, Φa, hP, h5_0, h5_1, h5_5, h5_26, condVC]
        refine ⟨fun hc26 => hX11 ?_, fun hc26 => hY11 ?_⟩
        · clear hX11 hY11 X11 Y11
          refine SX.seq_k fun K12 hK12 => ?_
          refine SX.region_d [some 27, some 4] rfl (fun ops hops => ?_)
          unfold Dsts at hops
          simp (maxSteps:=1000000)(dsimp:=false)(disch:=omega) only [go_sem, Φa, hP, h5_0, h5_1, h5_5, h5_26, hops]
          refine hK12 _ _ ?_
          try clear hK12 K12
          refine SX.ret ?_
          simp only [andThen_normal, andThen_ret, andThen_exit, inBlk_normal, inBlk_ret, inBlk_exit, Nat.reduceEqDiff, if_true, if_false, ↓reduceIte, retQ_ret]
          try simp only [res0, res1, res2, res3, stK_e, go_sem, Φa, hP, h5_0, h5_1, h5_5, h5_26]
          exact ⟨_, _, Less.refl _, rfl, by rw [hap, ap_here hia hib (fun e => by have := hr'.2 e; simp_all)], rfl⟩
        · clear hX11 hY11 X11 Y11
          refine SX.skip ?_
          try simp only [andThen_normal, andThen_ret, andThen_exit, inBlk_normal, inBlk_ret, inBlk_exit, Nat.reduceEqDiff, if_true, if_false, ↓reduceIte]
          refine hK9 _ _ ?_
          try clear hK9 K9
          refine SX.region_d [some 16, some 17, some 5] rfl (fun ops hops => ?_)
          unfold Dsts at hops
          simp (maxSteps:=1000000)(dsimp:=false)(disch:=omega) only [go_sem, Φa, hP, h5_0, h5_1, h5_5, h5_26, hops]
          repeat' ((first | refine And.intro (by omega) ?_ | fail); try (with_reducible refine stI ?_); try simp (maxSteps:=1000000)(dsimp:=false)(disch:=omega) only [go_sem, Φa, hP, h5_0, h5_1, h5_5, h5_26, hops])
          refine hK4 (i + 1) _ (L) _ (by exact Less.refl _) ?_ ?_
          · try dsimp only
            refine ⟨?_, ?_, ?_, ?_, ?_⟩
            · simp (maxSteps:=1000000)(dsimp:=false)(disch:=omega) only [go_sem, Φa, hP, h5_0, h5_1, h5_5, h5_26]
              first | done | rfl | skip
            · simp (maxSteps:=1000000)(dsimp:=false)(disch:=omega) only [go_sem, Φa, hP, h5_0, h5_1, h5_5, h5_26]
            · simp (maxSteps:=1000000)(dsimp:=false)(disch:=omega) only [go_sem, Φa, hP, h5_0, h5_1, h5_5, h5_26]
            · rfl
            · exact ⟨by omega, by omega, by rw [hap, ap_step hia hib (hr'.1 (by simpa using hc26))]⟩
          · (try dsimp only); omega
      · clear hX8 hY8 X8 Y8
        refine SX.exit ?_
        try simp only [andThen_normal, andThen_ret, andThen_exit, inBlk_normal, inBlk_ret, inBlk_exit, Nat.reduceEqDiff, if_true, if_false, ↓reduceIte]
        refine hK2 _ _ ?_
        try clear hK2 K2
        refine SX.seq_k fun K13 hK13 => ?_
        refine SX.seq_k fun K14 hK14 => ?_
        refine SX.region_d [some 28, some 29, some 30, some 31, some 32] rfl (fun ops hops => ?_)
        unfold Dsts at hops
        simp (maxSteps:=1000000)(dsimp:=false)(disch:=omega) only [go_sem, Φa, hP, h4_15, h4_0, h4_1, h4_5, hops]
        repeat' ((first | refine And.intro (by omega) ?_ | fail); try (with_reducible refine stI ?_); try simp (maxSteps:=1000000)(dsimp:=false)(disch:=omega) only [go_sem, Φa, hP, h4_15, h4_0, h4_1, h4_5, hops])
        refine hK14 _ _ ?_
        try clear hK14 K14
        refine SX.cond_k fun X15 Y15 hX15 hY15 => ?_
        simp (maxSteps:=1000000)(dsimp:=false)(disch:=omega) only [go_sem, Φa, hP, h4_15, h4_0, h4_1, h4_5, condVC]
        refine ⟨fun hc32 => hX15 ?_, fun hc32 => hY15 ?_⟩
        · clear hX15 hY15 X15 Y15
          refine SX.seq_k fun K16 hK16 => ?_
          refine SX.region_d [some 4] rfl (fun ops hops => ?_)
          unfold Dsts at hops
          simp (maxSteps:=1000000)(dsimp:=false)(disch:=omega) only [go_sem, Φa, hP, h4_15, h4_0, h4_1, h4_5, hops]
          refine hK16 _ _ ?_
          try clear hK16 K16
          refine SX.ret ?_
          simp only [andThen_normal, andThen_ret, andThen_exit, inBlk_normal, inBlk_ret, inBlk_exit, Nat.reduceEqDiff, if_true, if_false, ↓reduceIte, retQ_ret]
          try simp only [res0, res1, res2, res3, stK_e, go_sem, Φa, hP, h4_15, h4_0, h4_1, h4_5]
          exact ⟨_, _, Less.refl _, rfl, by rw [hap, ap_both (by simp at hc15; omega) (by simp at hc15; omega)], rfl⟩
        · clear hX15 hY15 X15 Y15
          refine SX.skip ?_
          try simp only [andThen_normal, andThen_ret, andThen_exit, inBlk_normal, inBlk_ret, inBlk_exit, Nat.reduceEqDiff, if_true, if_false, ↓reduceIte]
          refine hK13 _ _ ?_
          try clear hK13 K13
          refine SX.seq_k fun K17 hK17 => ?_
          refine SX.region_d [some 33, some 34, some 35, some 36, some 37, some 4] rfl (fun ops hops => ?_)
          unfold Dsts at hops
          simp (maxSteps:=1000000)(dsimp:=false)(disch:=omega) only [go_sem, Φa, hP, h4_15, h4_0, h4_1, h4_5, hops]
          repeat' ((first | refine And.intro (by omega) ?_ | fail); try (with_reducible refine stI ?_); try simp (maxSteps:=1000000)(dsimp:=false)(disch:=omega) only [go_sem, Φa, hP, h4_15, h4_0, h4_1, h4_5, hops])
          refine hK17 _ _ ?_
          try clear hK17 K17
          refine SX.ret ?_
          simp only [andThen_normal, andThen_ret, andThen_exit, inBlk_normal, inBlk_ret, inBlk_exit, Nat.reduceEqDiff, if_true, if_false, ↓reduceIte, retQ_ret]
          try simp only [res0, res1, res2, res3, stK_e, go_sem, Φa, hP, h4_15, h4_0, h4_1, h4_5]
          refine ⟨_, _, Less.refl _, rfl, ?_, rfl⟩
          rw [hap]
          simp only [Bool.and_eq_false_iff, decide_eq_false_iff_not] at hc15
          rcases Nat.lt_or_ge i a.length with h | h
          · rw [ap_endb h (by omega)]; congr 1; omega
          · rw [ap_enda (by omega) (by omega)]; congr 1; omega
set_option maxHeartbeats 1000000 in
set_option maxRecDepth 100000 in
theorem Apart_spec {Γ : Ctx} (hP : Γ.P = Tryd.prog) {L : Hp} {va vb : Value} {a b : List Rc} (ha : SlC (Cell Γ L) va a) (hb : SlC (Cell Γ L) vb b) (hao : ∀ r ∈ a, OkR r) (hbo : ∀ r ∈ b, OkR r) (hal : a.length ≤ 9223372036854775807) (hbl : b.length ≤ 9223372036854775807) :
    SCall Γ 21 #[va, vb] L (fun v L' => v = .int .i64 (apP a b 0) ∧ L' = L) := by
  obtain ⟨A, c, rfl, hc⟩ := Sl.shape ha
  obtain ⟨B, d, rfl, hd⟩ := Sl.shape hb
  obtain ⟨a1, e1, _, hA⟩ := Sl.at1 ha
  obtain ⟨b1, e2, _, hB⟩ := Sl.at1 hb
  refine SCall.enter (n := 35) (res1 4) (hP ▸ Tryd.func21) rfl rfl (by simp) (res1_ok rfl) ?_
  refine SX.seq_k fun K1 hK1 => ?_
  refine SX.region_d [some 4] rfl (fun ops hops => ?_)
  unfold Dsts at hops
  simp (maxSteps:=1000000)(dsimp:=false)(disch:=omega) only [go_sem, Φa, hP, hops]
  refine hK1 _ _ ?_
  try clear hK1 K1
  refine SX.seq_k fun K2 hK2 => ?_
  refine SX.seq_k fun K3 hK3 => ?_
  refine SX.region_d [some 6, some 7, some 8] rfl (fun ops hops => ?_)
  unfold Dsts at hops
  simp (maxSteps:=1000000)(dsimp:=false)(disch:=omega) only [go_sem, Φa, hP, hops]
  repeat' ((first | refine And.intro (by omega) ?_ | fail); try (with_reducible refine stI ?_); try simp (maxSteps:=1000000)(dsimp:=false)(disch:=omega) only [go_sem, Φa, hP, hops])
  refine hK3 _ _ ?_
  try clear hK3 K3
  refine SX.block ?_
  refine SX.live [0, 1, 7, 8] (fun T1 hT1 => ?_)
  simp only [forall_mem_cons', forall_mem_nil', go_sem, Φa, hP] at hT1
  obtain ⟨h1_0, h1_1, h1_7, h1_8⟩ := hT1
  refine SX.loop_k (fun (ss : (Nat)) T L' => (fun (i : Nat) => T 8 = .int .i64 (i : Int) ∧ T 0 = T1 0 ∧ T 1 = T1 1 ∧ T 7 = T1 7 ∧ L' = L ∧ (i ≤ a.length ∧ i ≤ b.length ∧ apP a b 0 = apP (a.drop i) (b.drop i) (i : Int))) (ss)) (fun (ss : (Nat)) => (fun (i : Nat) => a.length - i) (ss)) 0 ?_ ?_
  · try dsimp only
    refine ⟨?_, ?_, ?_, ?_, ?_, ?_⟩
    · first | exact h1_8 | (rw [h1_8]; rfl) | (rw [h1_8]; simp; done)
    · rfl
    · rfl
    · rfl
    · rfl
    · exact ⟨Nat.zero_le _, Nat.zero_le _, rfl⟩
  · intro i T2 L2 hI K4 hK4
    try dsimp only at hI hK4
    simp only [h1_0, h1_1, h1_7] at hI hK4
    obtain ⟨h2_8, h2_0, h2_1, h2_7, hL2, ⟨hi, hib0, hap⟩⟩ := hI
    replace hL2 := hL2.symm
    subst hL2
    clear h1_0 h1_1 h1_7 h1_8 T1
    refine SX.seq_k fun K5 hK5 => ?_
    refine SX.region_d [some 9] rfl (fun ops hops => ?_)
    unfold Dsts at hops
    simp (maxSteps:=1000000)(dsimp:=false)(disch:=omega) only [go_sem, Φa, hP, h2_8, h2_0, h2_1, h2_7, hops]
    repeat' ((first | refine And.intro (by omega) ?_ | fail); try (with_reducible refine stI ?_); try simp (maxSteps:=1000000)(dsimp:=false)(disch:=omega) only [go_sem, Φa, hP, h2_8, h2_0, h2_1, h2_7, hops])
    refine hK5 _ _ ?_
    try clear hK5 K5
    refine SX.seq_k fun K6 hK6 => ?_
    refine SX.cond_k fun X7 Y7 hX7 hY7 => ?_
    simp (maxSteps:=1000000)(dsimp:=false)(disch:=omega) only [go_sem, Φa, hP, h2_8, h2_0, h2_1, h2_7, condVC]
    refine ⟨fun hc9 => hX7 ?_, fun hc9 => hY7 ?_⟩
    · clear hX7 hY7 X7 Y7
      refine SX.skip ?_
      try simp only [andThen_normal, andThen_ret, andThen_exit, inBlk_normal, inBlk_ret, inBlk_exit, Nat.reduceEqDiff, if_true, if_false, ↓reduceIte]
      refine hK6 _ _ ?_
      try clear hK6 K6
      refine SX.seq_k fun K8 hK8 => ?_
      refine SX.block ?_
      refine SX.seq_k fun K9 hK9 => ?_
      refine SX.region_d [some 10, some 5] rfl (fun ops hops => ?_)
      unfold Dsts at hops
      simp (maxSteps:=1000000)(dsimp:=false)(disch:=omega) only [go_sem, Φa, hP, h2_8, h2_0, h2_1, h2_7, hops]
      refine hK9 _ _ ?_
      try clear hK9 K9
      refine SX.seq_k fun K10 hK10 => ?_
      have hia : i < a.length := by omega
      refine SX.quiet_d (hP ▸ T.mixed) (by kernel_rfl) [some 11, some 12, some 13, some 14, some 15, some 16, some 17, some 18, some 19, some 20, some 21, some 22, some 23, some 24, some 25] rfl (fun ops hops => ?_)
      unfold Dsts at hops
      simp (maxSteps:=1000000)(dsimp:=false)(disch:=omega) only [go_sem, Φa, hP, h2_8, h2_0, h2_1, h2_7, hops, ia_at e1, ia_at e2]
      refine iteI (fun hib => ?_) (fun hib => ?_)
      · skip
        try with_reducible refine stI ?_
        have hib : i < b.length := by omega
        have hck := hA i _ (getD_get (d := default) hia)
        have kck := hB i _ (getD_get (d := default) hib)
        have hra := hao _ (getD_mem hia)
        have hrb := hbo _ (getD_mem hib)
        try with_reducible refine stI ?_
        try simp (maxSteps:=1000000)(dsimp:=false)(disch:=omega) only [go_sem, Φa, hP, h2_8, h2_0, h2_1, h2_7, hops, ia_at e1, ia_at e2]
        refine ⟨_, hck 0 _ rfl, _, hck 1 _ rfl, _, hck 2 _ rfl, _, hck 3 _ rfl, _, hck 4 _ rfl, _, hck 5 _ rfl, _, hck 6 _ rfl, _, hck 7 _ rfl, ?_⟩
        try with_reducible refine stI ?_
        try simp (maxSteps:=1000000)(dsimp:=false)(disch:=omega) only [go_sem, Φa, hP, h2_8, h2_0, h2_1, h2_7, hops, ia_at e1, ia_at e2]
        refine ⟨_, kck 0 _ rfl, _, kck 1 _ rfl, _, kck 2 _ rfl, _, kck 3 _ rfl, _, kck 4 _ rfl, _, kck 5 _ rfl, _, kck 6 _ rfl, _, kck 7 _ rfl, ?_⟩
        try with_reducible refine stI ?_
        try simp (maxSteps:=1000000)(dsimp:=false)(disch:=omega) only [go_sem, Φa, hP, h2_8, h2_0, h2_1, h2_7, hops, ia_at e1, ia_at e2]
        refine aggEq_of eqT_46 (okV_Rc hra) (okV_Rc hrb) (fun r hr => ?_)
        have hr' : r = true ↔ a.getD i default = b.getD i default := hr.trans Rc.eq_cells
        try with_reducible refine stI ?_
        try simp (maxSteps:=1000000)(dsimp:=false)(disch:=omega) only [go_sem, Φa, hP, h2_8, h2_0, h2_1, h2_7, hops, ia_at e1, ia_at e2]
        refine hK10 _ _ ?_
        try clear hK10 K10
        refine SX.live [0, 1, 5, 7, 8, 25] (fun T3 hT3 => ?_)
        simp only [forall_mem_cons', forall_mem_nil', go_sem, Φa, hP, h2_8, h2_0, h2_1, h2_7] at hT3
        obtain ⟨h3_0, h3_1, h3_5, h3_7, h3_8, h3_25⟩ := hT3
        clear h2_8 h2_0 h2_1 h2_7 T2
        refine SX.cond_k fun X11 Y11 hX11 hY11 => ?_
        simp (maxSteps:=1000000)(dsimp:=false)(disch:=omega) only [go_sem, Φa, hP, h3_0, h3_1, h3_5, h3_7, h3_8, h3_25, condVC]
        refine ⟨fun hc25 => hX11 ?_, fun hc25 => hY11 ?_⟩
        · clear hX11 hY11 X11 Y11
          refine SX.seq_k fun K12 hK12 => ?_
          refine SX.region_d [some 26, some 4] rfl (fun ops hops => ?_)
          unfold Dsts at hops
          simp (maxSteps:=1000000)(dsimp:=false)(disch:=omega) only [go_sem, Φa, hP, h3_0, h3_1, h3_5, h3_7, h3_8, h3_25, hops]
          refine hK12 _ _ ?_
          try clear hK12 K12
          refine SX.ret ?_
          simp only [andThen_normal, andThen_ret, andThen_exit, inBlk_normal, inBlk_ret, inBlk_exit, Nat.reduceEqDiff, if_true, if_false, ↓reduceIte, retQ_ret]
          try simp only [res0, res1, res2, res3, stK_e, go_sem, Φa, hP, h3_0, h3_1, h3_5, h3_7, h3_8, h3_25]
          exact ⟨_, _, Less.refl _, rfl, by rw [hap, ap_here hia hib (fun e => by have := hr'.2 e; simp_all)], rfl⟩
        · clear hX11 hY11 X11 Y11
          refine SX.skip ?_
          try simp only [andThen_normal, andThen_ret, andThen_exit, inBlk_normal, inBlk_ret, inBlk_exit, Nat.reduceEqDiff, if_true, if_false, ↓reduceIte]
          refine hK8 _ _ ?_
          try clear hK8 K8
          refine SX.region_d [some 27, some 8] rfl (fun ops hops => ?_)
          unfold Dsts at hops
          simp (maxSteps:=1000000)(dsimp:=false)(disch:=omega) only [go_sem, Φa, hP, h3_0, h3_1, h3_5, h3_7, h3_8, h3_25, hops]
          repeat' ((first | refine And.intro (by omega) ?_ | fail); try (with_reducible refine stI ?_); try simp (maxSteps:=1000000)(dsimp:=false)(disch:=omega) only [go_sem, Φa, hP, h3_0, h3_1, h3_5, h3_7, h3_8, h3_25, hops])
          refine hK4 (i + 1) _ (L) _ (by exact Less.refl _) ?_ ?_
          · try dsimp only
            refine ⟨?_, ?_, ?_, ?_, ?_, ?_⟩
            · simp (maxSteps:=1000000)(dsimp:=false)(disch:=omega) only [go_sem, Φa, hP, h3_0, h3_1, h3_5, h3_7, h3_8, h3_25]
              first | done | rfl | skip
            · simp (maxSteps:=1000000)(dsimp:=false)(disch:=omega) only [go_sem, Φa, hP, h3_0, h3_1, h3_5, h3_7, h3_8, h3_25]
            · simp (maxSteps:=1000000)(dsimp:=false)(disch:=omega) only [go_sem, Φa, hP, h3_0, h3_1, h3_5, h3_7, h3_8, h3_25]
            · simp (maxSteps:=1000000)(dsimp:=false)(disch:=omega) only [go_sem, Φa, hP, h3_0, h3_1, h3_5, h3_7, h3_8, h3_25]
            · rfl
            · exact ⟨by omega, by omega, by rw [hap, ap_step hia hib (hr'.1 (by simpa using hc25))]⟩
          · (try dsimp only); omega
      · skip
        try with_reducible refine stI ?_
        have hib : i = b.length := Decidable.not_not.1 hib
        try with_reducible refine stI ?_
        try simp (maxSteps:=1000000)(dsimp:=false)(disch:=omega) only [go_sem, Φa, hP, h2_8, h2_0, h2_1, h2_7, hops, ia_at e1, ia_at e2]
        refine hK10 _ _ ?_
        try clear hK10 K10
        refine SX.live [0, 1, 5, 7, 8, 25] (fun T4 hT4 => ?_)
        simp only [forall_mem_cons', forall_mem_nil', go_sem, Φa, hP, h2_8, h2_0, h2_1, h2_7] at hT4
        obtain ⟨h4_0, h4_1, h4_5, h4_7, h4_8, h4_25⟩ := hT4
        clear h2_8 h2_0 h2_1 h2_7 T2
        refine SX.cond_k fun X13 Y13 hX13 hY13 => ?_
        simp (maxSteps:=1000000)(dsimp:=false)(disch:=omega) only [go_sem, Φa, hP, h4_0, h4_1, h4_5, h4_7, h4_8, h4_25, condVC]
        refine hX13 ?_
        clear hX13 hY13 X13 Y13
        refine SX.seq_k fun K14 hK14 => ?_
        refine SX.region_d [some 26, some 4] rfl (fun ops hops => ?_)
        unfold Dsts at hops
        simp (maxSteps:=1000000)(dsimp:=false)(disch:=omega) only [go_sem, Φa, hP, h4_0, h4_1, h4_5, h4_7, h4_8, h4_25, hops]
        refine hK14 _ _ ?_
        try clear hK14 K14
        refine SX.ret ?_
        simp only [andThen_normal, andThen_ret, andThen_exit, inBlk_normal, inBlk_ret, inBlk_exit, Nat.reduceEqDiff, if_true, if_false, ↓reduceIte, retQ_ret]
        try simp only [res0, res1, res2, res3, stK_e, go_sem, Φa, hP, h4_0, h4_1, h4_5, h4_7, h4_8, h4_25]
        exact ⟨_, _, Less.refl _, rfl, by rw [hap, ap_endb hia hib], rfl⟩
    · clear hX7 hY7 X7 Y7
      refine SX.exit ?_
      try simp only [andThen_normal, andThen_ret, andThen_exit, inBlk_normal, inBlk_ret, inBlk_exit, Nat.reduceEqDiff, if_true, if_false, ↓reduceIte]
      refine hK2 _ _ ?_
      try clear hK2 K2
      refine SX.seq_k fun K15 hK15 => ?_
      refine SX.seq_k fun K16 hK16 => ?_
      refine SX.region_d [some 28, some 29, some 30, some 31, some 32] rfl (fun ops hops => ?_)
      unfold Dsts at hops
      simp (maxSteps:=1000000)(dsimp:=false)(disch:=omega) only [go_sem, Φa, hP, h2_8, h2_0, h2_1, h2_7, hops]
      repeat' ((first | refine And.intro (by omega) ?_ | fail); try (with_reducible refine stI ?_); try simp (maxSteps:=1000000)(dsimp:=false)(disch:=omega) only [go_sem, Φa, hP, h2_8, h2_0, h2_1, h2_7, hops])
      refine hK16 _ _ ?_
      try clear hK16 K16
      refine SX.cond_k fun X17 Y17 hX17 hY17 => ?_
      simp (maxSteps:=1000000)(dsimp:=false)(disch:=omega) only [go_sem, Φa, hP, h2_8, h2_0, h2_1, h2_7, condVC]
      refine ⟨fun hc32 => hX17 ?_, fun hc32 => hY17 ?_⟩
      · clear hX17 hY17 X17 Y17
        refine SX.seq_k fun K18 hK18 => ?_
        refine SX.region_d [some 33, some 34, some 4] rfl (fun ops hops => ?_)
        unfold Dsts at hops
        simp (maxSteps:=1000000)(dsimp:=false)(disch:=omega) only [go_sem, Φa, hP, h2_8, h2_0, h2_1, h2_7, hops]
        repeat' ((first | refine And.intro (by omega) ?_ | fail); try (with_reducible refine stI ?_); try simp (maxSteps:=1000000)(dsimp:=false)(disch:=omega) only [go_sem, Φa, hP, h2_8, h2_0, h2_1, h2_7, hops])
        refine hK18 _ _ ?_
        try clear hK18 K18
        refine SX.ret ?_
        simp only [andThen_normal, andThen_ret, andThen_exit, inBlk_normal, inBlk_ret, inBlk_exit, Nat.reduceEqDiff, if_true, if_false, ↓reduceIte, retQ_ret]
        try simp only [res0, res1, res2, res3, stK_e, go_sem, Φa, hP, h2_8, h2_0, h2_1, h2_7]
        exact ⟨_, _, Less.refl _, rfl, by rw [hap, ap_enda (by omega) (by omega)]; congr 1; omega, rfl⟩
      · clear hX17 hY17 X17 Y17
        refine SX.skip ?_
        try simp only [andThen_normal, andThen_ret, andThen_exit, inBlk_normal, inBlk_ret, inBlk_exit, Nat.reduceEqDiff, if_true, if_false, ↓reduceIte]
        refine hK15 _ _ ?_
        try clear hK15 K15
        refine SX.seq_k fun K19 hK19 => ?_
        refine SX.region_d [some 4] rfl (fun ops hops => ?_)
        unfold Dsts at hops
        simp (maxSteps:=1000000)(dsimp:=false)(disch:=omega) only [go_sem, Φa, hP, h2_8, h2_0, h2_1, h2_7, hops]
        refine hK19 _ _ ?_
        try clear hK19 K19
        refine SX.ret ?_
        simp only [andThen_normal, andThen_ret, andThen_exit, inBlk_normal, inBlk_ret, inBlk_exit, Nat.reduceEqDiff, if_true, if_false, ↓reduceIte, retQ_ret]
        try simp only [res0, res1, res2, res3, stK_e, go_sem, Φa, hP, h2_8, h2_0, h2_1, h2_7]
        exact ⟨_, _, Less.refl _, rfl, by rw [hap, ap_both (by omega) (by omega)], rfl⟩
set_option maxHeartbeats 1000000 in
set_option maxRecDepth 100000 in
theorem same_spec {Γ : Ctx} (hP : Γ.P = Tryd.prog) {L : Hp} {va vb : Value} {a b : List Rc} (ha : SlC (Cell Γ L) va a) (hb : SlC (Cell Γ L) vb b) (hao : ∀ r ∈ a, OkR r) (hbo : ∀ r ∈ b, OkR r) (hal : a.length ≤ 9223372036854775807) (hbl : b.length ≤ 9223372036854775807) :
    SCall Γ 25 #[va, vb] L (fun v L' => v = .bool (decide (a = b)) ∧ L' = L) := by
  refine SCall.enter (n := 9) (res1 4) (hP ▸ Tryd.func25) rfl rfl (by simp) (res1_ok rfl) ?_
  refine SX.seq_k fun K1 hK1 => ?_
  refine SX.region_d [some 4] rfl (fun ops hops => ?_)
  unfold Dsts at hops
  simp (maxSteps:=1000000)(dsimp:=false)(disch:=omega) only [go_sem, Φa, hP, hops]
  refine hK1 _ _ ?_
  try clear hK1 K1
  refine SX.seq_k fun K2 hK2 => ?_
  refine SX.region_d [some 5, some 6, some 7, some 8, some 4] rfl (fun ops hops => ?_)
  unfold Dsts at hops
  simp (maxSteps:=1000000)(dsimp:=false)(disch:=omega) only [go_sem, Φa, hP, hops]
  refine SCall.mono (refApart_spec hP ha hb hao hbo hal hbl) ?_
  rintro v_ L_ ⟨hv_, hL_⟩
  rw [hv_, hL_]
  clear hv_ hL_ v_ L_
  try with_reducible refine stI ?_
  try simp (maxSteps:=1000000)(dsimp:=false)(disch:=omega) only [go_sem, Φa, hP, hops]
  refine hK2 _ _ ?_
  try clear hK2 K2
  refine SX.ret ?_
  simp only [andThen_normal, andThen_ret, andThen_exit, inBlk_normal, inBlk_ret, inBlk_exit, Nat.reduceEqDiff, if_true, if_false, ↓reduceIte, retQ_ret]
  try simp only [res0, res1, res2, res3, stK_e, go_sem, Φa, hP]
  exact ⟨_, _, Less.refl _, rfl, congrArg Value.bool (decide_eq_decide.2 (ap_neg a b 0 (Int.le_refl _))), rfl⟩
set_option maxHeartbeats 1000000 in
set_option maxRecDepth 100000 in
theorem TraceApart_spec {Γ : Ctx} (hP : Γ.P = Tryd.prog) {L : Hp} (hM : MD Γ) {va vb : Value} {a b : List Rc} (ha : SlC (Cell Γ L) va a) (hb : SlC (Cell Γ L) vb b) (hao : ∀ r ∈ a, OkR r) (hbo : ∀ r ∈ b, OkR r) (hal : a.length ≤ 9223372036854775807) (hbl : b.length ≤ 9223372036854775807) :
    SCall Γ 7 #[va, vb] L (fun v L' => v = .bool true ∧ L' = L) := by
  refine SCall.enter (n := 32) (res1 4) (hP ▸ Tryd.func7) rfl rfl (by simp) (res1_ok rfl) ?_
  refine SX.seq_k fun K1 hK1 => ?_
  refine SX.region_d [some 4] rfl (fun ops hops => ?_)
  unfold Dsts at hops
  simp (maxSteps:=1000000)(dsimp:=false)(disch:=omega) only [go_sem, Φa, hP, hops]
  refine hK1 _ _ ?_
  try clear hK1 K1
  refine SX.seq_k fun K2 hK2 => ?_
  refine SX.region_d [some 7, some 8, some 9, some 5] rfl (fun ops hops => ?_)
  unfold Dsts at hops
  simp (maxSteps:=1000000)(dsimp:=false)(disch:=omega) only [go_sem, Φa, hP, hops]
  (refine SCall.mono (Apart_spec hP ha hb hao hbo hal hbl) ?_; rintro v_ L_ ⟨hv_, hL_⟩; rw [hv_, hL_]; clear hv_ hL_ v_ L_)
  try with_reducible refine stI ?_
  try simp (maxSteps:=1000000)(dsimp:=false)(disch:=omega) only [go_sem, Φa, hP, hops]
  refine hK2 _ _ ?_
  try clear hK2 K2
  refine SX.seq_k fun K3 hK3 => ?_
  refine SX.region_d [some 10, some 11, some 12, some 6] rfl (fun ops hops => ?_)
  unfold Dsts at hops
  simp (maxSteps:=1000000)(dsimp:=false)(disch:=omega) only [go_sem, Φa, hP, hops]
  (refine SCall.mono (Apart_spec hP hb ha hbo hao hbl hal) ?_; rintro v_ L_ ⟨hv_, hL_⟩; rw [hv_, hL_]; clear hv_ hL_ v_ L_)
  rw [ap_comm b a]
  try with_reducible refine stI ?_
  try simp (maxSteps:=1000000)(dsimp:=false)(disch:=omega) only [go_sem, Φa, hP, hops]
  refine hK3 _ _ ?_
  try clear hK3 K3
  refine SX.live [0, 1, 5, 6] (fun T1 hT1 => ?_)
  simp only [forall_mem_cons', forall_mem_nil', go_sem, Φa, hP] at hT1
  obtain ⟨h1_0, h1_1, h1_5, h1_6⟩ := hT1
  refine SX.seq_k fun K4 hK4 => ?_
  refine SX.region_xd [some 13, some 14, some 15, some 16, some 17, some 18, some 19, some 20, some 21, some 22, some 23, some 24, some 25, some 26, some 27, some 28, some 29, some 30, some 31, some 4] rfl (fun ops hops => ?_)
  unfold Dsts at hops
  refine RX.live [0, 1, 5, 6] (fun T2 hT2 => ?_)
  simp only [forall_mem_cons', forall_mem_nil', go_sem, Φa, hP, h1_0, h1_1, h1_5, h1_6] at hT2
  obtain ⟨h2_0, h2_1, h2_5, h2_6⟩ := hT2
  clear h1_0 h1_1 h1_5 h1_6 T1
  refine RX.join 10 (fun (ss : Unit) T L' => T 22 = .bool (true) ∧ T 0 = T2 0 ∧ L' = L ∧ (True)) (fun K5 hK5 => ?_) ?_
  · simp only [h2_0] at hK5
    simp (maxSteps:=1000000)(dsimp:=false)(disch:=omega) only [go_sem, Φa, hP, h2_0, h2_1, h2_5, h2_6, hops]
    repeat' (first | refine iteB (fun hg => ?_) (fun hg => ?_) | refine iteI (fun hg => ?_) (fun hg => ?_) | ((first | (refine SCall.mono (refApart_spec hP ha hb hao hbo hal hbl) ?_; rintro v_ L_ ⟨hv_, hL_⟩; rw [hv_, hL_]; clear hv_ hL_ v_ L_) | (refine SCall.mono (Apart_spec hP ha ha hao hao hal hal) ?_; rintro v_ L_ ⟨hv_, hL_⟩; rw [hv_, hL_]; clear hv_ hL_ v_ L_) | (refine SCall.mono (awake_spec hP hM) ?_; rintro v_ L_ ⟨hv_, hL_⟩; rw [hv_, hL_]; clear hv_ hL_ v_ L_) | refine And.intro (by omega) ?_ | fail); try (with_reducible refine stI ?_); try simp (maxSteps:=1000000)(dsimp:=false)(disch:=omega) only [go_sem, Φa, hP, h2_0, h2_1, h2_5, h2_6, hops]) | fail)
    all_goals
      refine hK5 () _ (L) _ (by first | exact Less.refl _ | exact Less.drop _ _ | exact Less.drops (Less.drop _ _) | exact Less.drops (Less.drops (Less.drop _ _)) | exact Less.drops (Less.drops (Less.drops (Less.drop _ _))) | exact Less.drops (Less.drops (Less.drops (Less.drops (Less.drop _ _))))) ?_
      try dsimp only
      refine ⟨?_, ?_, ?_, ?_⟩
      · simp (maxSteps:=1000000)(dsimp:=false)(disch:=omega) only [go_sem, Φa, hP, h2_0, h2_1, h2_5, h2_6]
        first | done | rfl | (rw [ap_same]; rfl) | (simp [ap_same, ap_comm b a]; done)
      · simp (maxSteps:=1000000)(dsimp:=false)(disch:=omega) only [go_sem, Φa, hP, h2_0, h2_1, h2_5, h2_6]
      · rfl
      · trivial
  · intro ss T3 L3 hI
    simp only [h2_0] at hI 
    obtain ⟨h3_22, h3_0, hL3, hinv⟩ := hI
    replace hL3 := hL3.symm
    subst hL3
    clear h2_0 h2_1 h2_5 h2_6 T2
    refine RX.live [0, 22] (fun T4 hT4 => ?_)
    simp only [forall_mem_cons', forall_mem_nil', go_sem, Φa, hP, h3_22, h3_0] at hT4
    obtain ⟨h4_0, h4_22⟩ := hT4
    clear h3_22 h3_0 T3
    refine RX.join 6 (fun (ss : Unit) T L' => T 28 = .bool (true) ∧ L' = L ∧ (True)) (fun K6 hK6 => ?_) ?_
    · simp (maxSteps:=1000000)(dsimp:=false)(disch:=omega) only [go_sem, Φa, hP, h4_0, h4_22, hops]
      repeat' (first | refine iteB (fun hg => ?_) (fun hg => ?_) | refine iteI (fun hg => ?_) (fun hg => ?_) | ((first | (refine SCall.mono (refApart_spec hP ha hb hao hbo hal hbl) ?_; rintro v_ L_ ⟨hv_, hL_⟩; rw [hv_, hL_]; clear hv_ hL_ v_ L_) | (refine SCall.mono (Apart_spec hP ha ha hao hao hal hal) ?_; rintro v_ L_ ⟨hv_, hL_⟩; rw [hv_, hL_]; clear hv_ hL_ v_ L_) | (refine SCall.mono (awake_spec hP hM) ?_; rintro v_ L_ ⟨hv_, hL_⟩; rw [hv_, hL_]; clear hv_ hL_ v_ L_) | refine And.intro (by omega) ?_ | fail); try (with_reducible refine stI ?_); try simp (maxSteps:=1000000)(dsimp:=false)(disch:=omega) only [go_sem, Φa, hP, h4_0, h4_22, hops]) | fail)
      all_goals
        refine hK6 () _ (L) _ (by first | exact Less.refl _ | exact Less.drop _ _ | exact Less.drops (Less.drop _ _) | exact Less.drops (Less.drops (Less.drop _ _)) | exact Less.drops (Less.drops (Less.drops (Less.drop _ _))) | exact Less.drops (Less.drops (Less.drops (Less.drops (Less.drop _ _))))) ?_
        try dsimp only
        refine ⟨?_, ?_, ?_⟩
        · simp (maxSteps:=1000000)(dsimp:=false)(disch:=omega) only [go_sem, Φa, hP, h4_0, h4_22]
          first | done | rfl | (rw [ap_same]; rfl) | (simp [ap_same, ap_comm b a]; done)
        · rfl
        · trivial
    · intro ss T5 L5 hI
      obtain ⟨h5_28, hL5, hinv⟩ := hI
      replace hL5 := hL5.symm
      subst hL5
      clear h4_0 h4_22 T4
      refine RX.live [28] (fun T6 hT6 => ?_)
      simp only [forall_mem_cons', forall_mem_nil', go_sem, Φa, hP, h5_28] at hT6
      have h6_28 := hT6; clear hT6
      clear h5_28 T5
      refine RX.join 3 (fun (ss : Unit) T L' => T 31 = .bool (true) ∧ L' = L ∧ (True)) (fun K7 hK7 => ?_) ?_
      · simp (maxSteps:=1000000)(dsimp:=false)(disch:=omega) only [go_sem, Φa, hP, h6_28, hops]
        repeat' (first | refine iteB (fun hg => ?_) (fun hg => ?_) | refine iteI (fun hg => ?_) (fun hg => ?_) | ((first | (refine SCall.mono (refApart_spec hP ha hb hao hbo hal hbl) ?_; rintro v_ L_ ⟨hv_, hL_⟩; rw [hv_, hL_]; clear hv_ hL_ v_ L_) | (refine SCall.mono (Apart_spec hP ha ha hao hao hal hal) ?_; rintro v_ L_ ⟨hv_, hL_⟩; rw [hv_, hL_]; clear hv_ hL_ v_ L_) | (refine SCall.mono (awake_spec hP hM) ?_; rintro v_ L_ ⟨hv_, hL_⟩; rw [hv_, hL_]; clear hv_ hL_ v_ L_) | refine And.intro (by omega) ?_ | fail); try (with_reducible refine stI ?_); try simp (maxSteps:=1000000)(dsimp:=false)(disch:=omega) only [go_sem, Φa, hP, h6_28, hops]) | fail)
        all_goals
          refine hK7 () _ (L) _ (by first | exact Less.refl _ | exact Less.drop _ _ | exact Less.drops (Less.drop _ _) | exact Less.drops (Less.drops (Less.drop _ _)) | exact Less.drops (Less.drops (Less.drops (Less.drop _ _))) | exact Less.drops (Less.drops (Less.drops (Less.drops (Less.drop _ _))))) ?_
          try dsimp only
          refine ⟨?_, ?_, ?_⟩
          · simp (maxSteps:=1000000)(dsimp:=false)(disch:=omega) only [go_sem, Φa, hP, h6_28]
            first | done | rfl | (rw [ap_same]; rfl) | (simp [ap_same, ap_comm b a]; done)
          · rfl
          · trivial
      · intro ss T7 L7 hI
        obtain ⟨h7_31, hL7, hinv⟩ := hI
        replace hL7 := hL7.symm
        subst hL7
        clear h6_28 T6
        refine RX.done ?_
        simp (maxSteps:=1000000)(dsimp:=false)(disch:=omega) only [go_sem, Φa, hP, h7_31, hops]
        refine hK4 _ _ ?_
        try clear hK4 K4
        refine SX.ret ?_
        simp only [andThen_normal, andThen_ret, andThen_exit, inBlk_normal, inBlk_ret, inBlk_exit, Nat.reduceEqDiff, if_true, if_false, ↓reduceIte, retQ_ret]
        try simp only [res0, res1, res2, res3, stK_e, go_sem, Φa, hP, h7_31]
        exact ⟨_, _, Less.refl _, rfl, rfl, rfl⟩

end Go.Proofs.YtcenlgofldnfcaaDoor
set_option linter.unusedVariables false
set_option linter.unusedSimpArgs false
namespace Go.Proofs.YtcenlgofldnfcaaDoor
open Go.RowKit Go.SX Go.Proofs
theorem zerosV_flat {α : Type} (f : α → List Value) (x : α) (n : Nat) : zerosV (f x) n = (List.replicate n x).flatMap f := by
  unfold zerosV
  induction n with
  | zero => rfl
  | succ n ih => rw [List.replicate_succ, List.flatten_cons, ih, List.replicate_succ, List.flatMap_cons]
theorem Sl.take {α : Type} {sz : Nat} {R : (Addr → Value → Prop) → Addr → α → Prop} {C : Addr → Value → Prop} {A : Option Addr} {n c k : Nat} {xs : List α} (h : Sl sz R C (.slice A n c) xs) (hk : k ≤ n) : Sl sz R C (.slice A k c) (xs.take k) := by
  obtain ⟨A', c', he, hc, hA⟩ := h
  injection he with e1 e2 e3
  subst e1 e2 e3
  refine ⟨A, c, by rw [List.length_take, Nat.min_eq_left hk], by rw [List.length_take]; omega, fun j x hj => ?_⟩
  rw [List.getElem?_take] at hj
  split at hj
  · exact hA j x hj
  · cases hj
theorem cutA0 (b : Option Addr) (sz m : Nat) : cutA b sz m 0 = b := by
  unfold cutA
  split
  · rfl
  · cases b <;> simp [Addr.add_zero']
/-! A trace in which nothing is asked. -/

/-! Records in memory of their own. -/
def rK (c : Int) : Rc := ⟨c, 0, 0, false, false, 0, false, 0⟩
abbrev markR : Rc := rK 77
theorem own_recs (l : List Rc) : l.flatMap Rc.cells ++ ((List.replicate (l.length + 1) (default : Rc)).flatMap Rc.cells).drop (l.length * 8) = (l ++ [default]).flatMap Rc.cells := by
  rw [List.replicate_succ', List.flatMap_append, List.flatMap_append, List.drop_left' (by rw [flat_len Rc.len, List.length_replicate])]
theorem mark_set (l : List Rc) : setN ((l ++ [default]).flatMap Rc.cells) (l.length * 8) [.int .u8 77, .int .u16 0, .int .u8 0, .bool false, .bool false, .int .u8 0, .bool false, .int .u8 0] = (l ++ [markR]).flatMap Rc.cells := by
  rw [List.flatMap_append, List.flatMap_append, ← flat_len Rc.len l]
  exact setN_app [.int .u8 77, .int .u16 0, .int .u8 0, .bool false, .bool false, .int .u8 0, .bool false, .int .u8 0] (l.flatMap Rc.cells) ([(default : Rc)].flatMap Rc.cells) (Nat.le_refl 8) |>.trans (by rw [List.drop_of_length_le (Nat.le_refl 8), List.append_nil]; rfl)
theorem mark_at (l : List Rc) : ((l ++ [markR]).flatMap Rc.cells)[l.length * 8]? = some (.int .u8 77) := by
  rw [List.flatMap_append, List.getElem?_append_right (by rw [flat_len Rc.len]; exact Nat.le_refl _), flat_len Rc.len, Nat.sub_self]
  rfl
theorem mark_sl {Γ : Ctx} {H : Hp} {l : List Rc} {gx : Nat} (h : some (gx, Obj.cells ((l ++ [markR]).flatMap Rc.cells).toArray 46 (0, 0)) ∈ H) (hl : l.length ≤ 2147483647) : SlC (Cell Γ H) (.slice (some ⟨gx, 0, none⟩) l.length (l.length + 1)) l := by
  obtain ⟨i, hi⟩ := List.mem_iff_getElem?.1 h
  have hr := Row.lit (e := 46) (sz := 8) (b := gx) (n := l.length + 1) (xs := (l ++ [markR]).flatMap Rc.cells) (by rw [flat_len Rc.len, List.length_append, List.length_singleton]) (by omega)
  have hr2 : RowL Rc.cells 46 8 (.slice (some ⟨gx, 0, none⟩) (l.length + 1) (l.length + 1)) (l ++ [markR]) (some (gx, Obj.cells ((l ++ [markR]).flatMap Rc.cells).toArray 46 (0, 0))) := by
    show Row 46 8 _ (l ++ [markR]).length _ _
    rw [List.length_append, List.length_singleton]
    exact hr
  have hs := RowL.sl (Γ := Γ) Rc.len hr2 hi
  have ht := Sl.take (k := l.length) hs (by omega)
  rwa [List.take_left' rfl] at ht
set_option maxHeartbeats 1000000 in
set_option maxRecDepth 100000 in
theorem lent_spec {Γ : Ctx} (hP : Γ.P = Tryd.prog) {L : Hp} {v : Value} {l : List Rc} (hl : SlC (Cell Γ []) v l) (hll : l.length ≤ 2147483647) :
    SCall Γ 11 #[v] L (fun v' L' => ∃ gx, v' = .slice (some ⟨gx, 0, none⟩) l.length (l.length + 1) ∧ L' = some (gx, .cells ((l ++ [markR]).flatMap Rc.cells).toArray 46 (0, 0)) :: L) := by
  obtain ⟨A, c, rfl, hc⟩ := Sl.shape hl
  refine SCall.enter (n := 20) (res1 2) (hP ▸ Tryd.func11) rfl rfl (by simp) (res1_ok rfl) ?_
  refine SX.seq_k fun K1 hK1 => ?_
  refine SX.region_d [some 2] rfl (fun ops hops => ?_)
  unfold Dsts at hops
  simp (maxSteps := 1000000) (dsimp := false) (disch := omega) only [go_sem, ia_someH, hP, hops]
  refine hK1 _ _ ?_
  try clear hK1 K1
  refine SX.seq_k fun K2 hK2 => ?_
  have hn1 : ((l.length : Int) + 1).toNat = l.length + 1 := by omega
  refine SX.region_d [some 4, some 5, some 6, some 7, some 3] rfl (fun ops hops => ?_)
  unfold Dsts at hops
  simp (maxSteps := 1000000) (dsimp := false) (disch := omega) only [go_sem, ia_someH, hP, hops, hn1]
  intro gx
  try with_reducible refine stI ?_
  try simp (maxSteps := 1000000) (dsimp := false) (disch := omega) only [go_sem, ia_someH, hP, hops, hn1]
  rw [show ([Value.int .u8 0, .int .u16 0, .int .u8 0, .bool false, .bool false, .int .u8 0, .bool false, .int .u8 0] : List Value) = (default : Rc).cells from rfl, zerosV_flat]
  try with_reducible refine stI ?_
  try simp (maxSteps := 1000000) (dsimp := false) (disch := omega) only [go_sem, ia_someH, hP, hops, hn1]
  refine hK2 _ _ ?_
  try clear hK2 K2
  refine SX.seq_k fun K3 hK3 => ?_
  refine SX.region_d [some 8, some 9, some 10] rfl (fun ops hops => ?_)
  unfold Dsts at hops
  simp (maxSteps := 1000000) (dsimp := false) (disch := omega) only [go_sem, ia_someH, hP, hops]
  refine YCopy.flat (f := Rc.cells) (i := 0) (l := l) Rc.len (fun _ => rfl) (hP ▸ T.elS_23) (SlC.mono (fun a v h => Cell.any h) hl) rfl (by omega) (by rw [flat_len Rc.len, List.length_replicate]; omega) (.inr (Nat.zero_le _)) ?_
  rw [own_recs]
  try with_reducible refine stI ?_
  try simp (maxSteps := 1000000) (dsimp := false) (disch := omega) only [go_sem, ia_someH, hP, hops]
  refine hK3 _ _ ?_
  try clear hK3 K3
  refine SX.live [0, 3] (fun T1 hT1 => ?_)
  simp only [forall_mem_cons', forall_mem_nil', go_sem, ia_someH, hP] at hT1
  obtain ⟨h1_0, h1_3⟩ := hT1
  refine SX.seq_k fun K4 hK4 => ?_
  refine SX.region_d [some 11, some 12, some 13, some 14, some 15, none] rfl (fun ops hops => ?_)
  unfold Dsts at hops
  simp (maxSteps := 1000000) (dsimp := false) (disch := omega) only [go_sem, ia_someH, hP, h1_0, h1_3, hops]
  refine ⟨0, _, _, _, rfl, (by rw [flat_len Rc.len, List.length_append, List.length_singleton]; omega), .inr (Nat.zero_le _), ?_⟩
  try with_reducible refine stI ?_
  try simp (maxSteps := 1000000) (dsimp := false) (disch := omega) only [go_sem, ia_someH, hP, h1_0, h1_3, hops]
  have hms := mark_set l
  simp only [setN] at hms
  rw [hms]
  clear hms
  refine hK4 _ _ ?_
  try clear hK4 K4
  refine SX.seq_k fun K5 hK5 => ?_
  refine SX.region_d [some 16, some 17, some 18, some 19, some 2] rfl (fun ops hops => ?_)
  unfold Dsts at hops
  simp (maxSteps := 1000000) (dsimp := false) (disch := omega) only [go_sem, ia_someH, hP, h1_0, h1_3, hops, cutA0, Nat.sub_zero]
  repeat' ((first | refine And.intro (by omega) ?_ | fail); try (with_reducible refine stI ?_); try simp (maxSteps := 1000000) (dsimp := false) (disch := omega) only [go_sem, ia_someH, hP, h1_0, h1_3, hops, cutA0, Nat.sub_zero])
  refine hK5 _ _ ?_
  try clear hK5 K5
  refine SX.ret ?_
  simp only [andThen_normal, andThen_ret, andThen_exit, inBlk_normal, inBlk_ret, inBlk_exit, Nat.reduceEqDiff, if_true, if_false, ↓reduceIte, retQ_ret]
  try simp only [res0, res1, res2, res3, stK_e, go_sem, ia_someH, hP, h1_0, h1_3]
  exact ⟨_, _, Less.refl _, rfl, gx, rfl, rfl⟩
set_option maxHeartbeats 1000000 in
set_option maxRecDepth 100000 in
theorem back_spec {Γ : Ctx} (hP : Γ.P = Tryd.prog) {L : Hp} {gx : Nat} {v : Value} {l : List Rc} (hl : SlC (Cell Γ []) v l) (ho : ∀ r ∈ l, OkR r) (hll : l.length ≤ 2147483647) :
    SCall Γ 14 #[(.slice (some ⟨gx, 0, none⟩) l.length (l.length + 1)), v] (some (gx, .cells ((l ++ [markR]).flatMap Rc.cells).toArray 46 (0, 0)) :: L) (fun v' L' => v' = .bool true ∧ ∃ s', L' = s' :: L) := by
  obtain ⟨A, c, rfl, hc⟩ := Sl.shape hl
  refine SCall.enter (n := 36) (res1 4) (hP ▸ Tryd.func14) rfl rfl (by simp) (res1_ok rfl) ?_
  refine SX.seq_k fun K1 hK1 => ?_
  refine SX.region_d [some 4] rfl (fun ops hops => ?_)
  unfold Dsts at hops
  simp (maxSteps := 1000000) (dsimp := false) (disch := omega) only [go_sem, ia_someH, hP, hops]
  refine hK1 _ _ ?_
  try clear hK1 K1
  refine SX.seq_k fun K2 hK2 => ?_
  have hn1 : ((l.length : Int) + 1).toNat = l.length + 1 := by omega
  refine SX.region_d [some 8, some 9, some 10, some 11, some 12, some 5] rfl (fun ops hops => ?_)
  unfold Dsts at hops
  simp (maxSteps := 1000000) (dsimp := false) (disch := omega) only [go_sem, ia_someH, hP, hops, cutA0, Nat.sub_zero, hn1]
  repeat' ((first | refine And.intro (by omega) ?_ | fail); try (with_reducible refine stI ?_); try simp (maxSteps := 1000000) (dsimp := false) (disch := omega) only [go_sem, ia_someH, hP, hops, cutA0, Nat.sub_zero, hn1])
  refine hK2 _ _ ?_
  try clear hK2 K2
  refine SX.seq_k fun K3 hK3 => ?_
  refine SX.region_xd [some 13, some 14, some 15, some 16, some 17, some 18, some 19, some 20, some 21, some 22, some 23, some 24, some 6] rfl (fun ops hops => ?_)
  unfold Dsts at hops
  refine RX.live [0, 1, 5] (fun T1 hT1 => ?_)
  simp only [forall_mem_cons', forall_mem_nil', go_sem, ia_someH, hP] at hT1
  obtain ⟨h1_0, h1_1, h1_5⟩ := hT1
  refine RX.join 12 (fun (ss : Unit) T L' => T 24 = .bool (true) ∧ T 5 = T1 5 ∧ L' = some (gx, .cells ((l ++ [markR]).flatMap Rc.cells).toArray 46 (0, 0)) :: L ∧ (True)) (fun K4 hK4 => ?_) ?_
  · simp only [h1_5] at hK4
    simp (maxSteps := 1000000) (dsimp := false) (disch := omega) only [go_sem, ia_someH, hP, h1_0, h1_1, h1_5, hops]
    repeat' (first | refine iteB (fun hg => ?_) (fun hg => ?_) | refine iteI (fun hg => ?_) (fun hg => ?_) | ((first | (refine SCall.mono (same_spec (a := l) (b := l) hP (mark_sl (List.mem_cons_self ..) hll) (SlC.mono (fun a v h => Cell.any h) hl) ho ho (by omega) (by omega)) ?_; rintro v_ L_ ⟨hv_, hL_⟩; rw [hv_, hL_]; clear hv_ hL_ v_ L_) | refine ⟨_, Cell.at 0 rfl (mark_at l), ?_⟩ | refine And.intro (by omega) ?_ | refine ⟨_, Cell.at 0 rfl rfl, ?_⟩ | fail); try (with_reducible refine stI ?_); try simp (maxSteps := 1000000) (dsimp := false) (disch := omega) only [go_sem, ia_someH, hP, h1_0, h1_1, h1_5, hops]) | fail)
    all_goals
      refine hK4 () _ (some (gx, .cells ((l ++ [markR]).flatMap Rc.cells).toArray 46 (0, 0)) :: L) _ (by first | exact Less.refl _ | exact Less.drop _ _ | exact Less.drops (Less.drop _ _) | exact Less.drops (Less.drops (Less.drop _ _)) | exact Less.drops (Less.drops (Less.drops (Less.drop _ _))) | exact Less.drops (Less.drops (Less.drops (Less.drops (Less.drop _ _))))) ?_
      try dsimp only
      refine ⟨?_, ?_, ?_, ?_⟩
      · simp (maxSteps := 1000000) (dsimp := false) (disch := omega) only [go_sem, ia_someH, hP, h1_0, h1_1, h1_5]
        first | done | rfl | (simp; done)
      · simp (maxSteps := 1000000) (dsimp := false) (disch := omega) only [go_sem, ia_someH, hP, h1_0, h1_1, h1_5]
      · rfl
      · trivial
  · intro ss T2 L2 hI
    simp only [h1_5] at hI 
    obtain ⟨h2_24, h2_5, hL2, hinv⟩ := hI
    replace hL2 := hL2.symm
    subst hL2
    clear h1_0 h1_1 h1_5 T1
    refine RX.done ?_
    simp (maxSteps := 1000000) (dsimp := false) (disch := omega) only [go_sem, ia_someH, hP, h2_24, h2_5, hops]
    refine hK3 _ _ ?_
    try clear hK3 K3
    refine SX.seq_k fun K5 hK5 => ?_
    refine SX.seq_k fun K6 hK6 => ?_
    refine SX.region_d [some 7] rfl (fun ops hops => ?_)
    unfold Dsts at hops
    simp (maxSteps := 1000000) (dsimp := false) (disch := omega) only [go_sem, ia_someH, hP, h2_24, h2_5, hops]
    refine hK6 _ _ ?_
    try clear hK6 K6
    refine SX.block ?_
    refine SX.live [5, 6, 7] (fun T3 hT3 => ?_)
    simp only [forall_mem_cons', forall_mem_nil', go_sem, ia_someH, hP, h2_24, h2_5] at hT3
    obtain ⟨h3_5, h3_6, h3_7⟩ := hT3
    clear h2_24 h2_5 T2
    refine SX.loop_k (fun (ss : (Nat) × (List Rc)) T L' => (fun (i : Nat) (xs : List Rc) => T 7 = .int .i64 (i : Int) ∧ T 5 = T3 5 ∧ T 6 = T3 6 ∧ L' = some (gx, .cells (xs.flatMap Rc.cells).toArray 46 (0, 0)) :: L ∧ (i ≤ l.length + 1 ∧ xs.length = l.length + 1)) (ss.1) (ss.2)) (fun (ss : (Nat) × (List Rc)) => (fun (i : Nat) (xs : List Rc) => l.length + 1 - i) (ss.1) (ss.2)) (0, l ++ [markR]) ?_ ?_
    · try dsimp only
      refine ⟨?_, ?_, ?_, ?_, ?_⟩
      · first | exact h3_7 | (rw [h3_7]; rfl) | (rw [h3_7]; simp; done)
      · rfl
      · rfl
      · rfl
      · exact ⟨Nat.zero_le _, by rw [List.length_append]; rfl⟩
    · intro ss T4 L4 hI K7 hK7
      obtain ⟨i, xs⟩ := ss
      try dsimp only at hI hK7
      simp only [h3_5, h3_6] at hI hK7
      obtain ⟨h4_7, h4_5, h4_6, hL4, ⟨hi, hxl⟩⟩ := hI
      replace hL4 := hL4.symm
      subst hL4
      clear h3_5 h3_6 h3_7 T3
      refine SX.seq_k fun K8 hK8 => ?_
      refine SX.seq_k fun K9 hK9 => ?_
      refine SX.region_d [some 25, some 26, some 27, some 28] rfl (fun ops hops => ?_)
      unfold Dsts at hops
      simp (maxSteps := 1000000) (dsimp := false) (disch := omega) only [go_sem, ia_someH, hP, h4_7, h4_5, h4_6, hops]
      repeat' ((first | refine And.intro (by omega) ?_ | fail); try (with_reducible refine stI ?_); try simp (maxSteps := 1000000) (dsimp := false) (disch := omega) only [go_sem, ia_someH, hP, h4_7, h4_5, h4_6, hops])
      refine hK9 _ _ ?_
      try clear hK9 K9
      refine SX.cond_k fun X10 Y10 hX10 hY10 => ?_
      simp (maxSteps := 1000000) (dsimp := false) (disch := omega) only [go_sem, ia_someH, hP, h4_7, h4_5, h4_6, condVC]
      refine ⟨fun hc28 => hX10 ?_, fun hc28 => hY10 ?_⟩
      · clear hX10 hY10 X10 Y10
        refine SX.skip ?_
        try simp only [andThen_normal, andThen_ret, andThen_exit, inBlk_normal, inBlk_ret, inBlk_exit, Nat.reduceEqDiff, if_true, if_false, ↓reduceIte]
        refine hK8 _ _ ?_
        try clear hK8 K8
        refine SX.seq_k fun K11 hK11 => ?_
        refine SX.block ?_
        refine SX.region_d [some 31, some 32, some 33, some 34, none] rfl (fun ops hops => ?_)
        unfold Dsts at hops
        simp (maxSteps := 1000000) (dsimp := false) (disch := omega) only [go_sem, ia_someH, hP, h4_7, h4_5, h4_6, hops]
        refine ⟨0, _, _, _, rfl, (by rw [flat_len Rc.len]; omega), .inr (Nat.zero_le _), ?_⟩
        try with_reducible refine stI ?_
        try simp (maxSteps := 1000000) (dsimp := false) (disch := omega) only [go_sem, ia_someH, hP, h4_7, h4_5, h4_6, hops]
        have hss := setN_flat (f := Rc.cells) (sz := 8) (junk := []) (o := 0) (y := rK 78) (vs := (rK 78).cells) Rc.len (getD_get (d := default) (show i < xs.length by omega)) (put_rc rfl) (Nat.le_refl 8)
        rw [List.append_nil, List.append_nil, Nat.add_zero] at hss
        simp only [rK, Rc.cells, setN] at hss
        rw [hss]
        clear hss
        refine hK11 _ _ ?_
        try clear hK11 K11
        refine SX.region_d [some 29, some 30, some 7] rfl (fun ops hops => ?_)
        unfold Dsts at hops
        simp (maxSteps := 1000000) (dsimp := false) (disch := omega) only [go_sem, ia_someH, hP, h4_7, h4_5, h4_6, hops]
        repeat' ((first | refine And.intro (by omega) ?_ | fail); try (with_reducible refine stI ?_); try simp (maxSteps := 1000000) (dsimp := false) (disch := omega) only [go_sem, ia_someH, hP, h4_7, h4_5, h4_6, hops])
        refine hK7 (i + 1, xs.set i (rK 78)) _ (some (gx, .cells ((xs.set i (rK 78)).flatMap Rc.cells).toArray 46 (0, 0)) :: L) _ (by first | exact Less.refl _ | exact Less.drop _ _ | exact Less.drops (Less.drop _ _) | exact Less.drops (Less.drops (Less.drop _ _)) | exact Less.drops (Less.drops (Less.drops (Less.drop _ _))) | exact Less.drops (Less.drops (Less.drops (Less.drops (Less.drop _ _))))) ?_ ?_
        · try dsimp only
          refine ⟨?_, ?_, ?_, ?_, ?_⟩
          · simp (maxSteps := 1000000) (dsimp := false) (disch := omega) only [go_sem, ia_someH, hP, h4_7, h4_5, h4_6]
            first | done | rfl | skip
          · simp (maxSteps := 1000000) (dsimp := false) (disch := omega) only [go_sem, ia_someH, hP, h4_7, h4_5, h4_6]
          · simp (maxSteps := 1000000) (dsimp := false) (disch := omega) only [go_sem, ia_someH, hP, h4_7, h4_5, h4_6]
          · rfl
          · exact ⟨by omega, by rw [List.length_set]; exact hxl⟩
        · (try dsimp only); omega
      · clear hX10 hY10 X10 Y10
        refine SX.exit ?_
        try simp only [andThen_normal, andThen_ret, andThen_exit, inBlk_normal, inBlk_ret, inBlk_exit, Nat.reduceEqDiff, if_true, if_false, ↓reduceIte]
        refine hK5 _ _ ?_
        try clear hK5 K5
        refine SX.seq_k fun K12 hK12 => ?_
        refine SX.region_d [some 35, some 4] rfl (fun ops hops => ?_)
        unfold Dsts at hops
        simp (maxSteps := 1000000) (dsimp := false) (disch := omega) only [go_sem, ia_someH, hP, h4_7, h4_5, h4_6, hops]
        refine hK12 _ _ ?_
        try clear hK12 K12
        refine SX.ret ?_
        simp only [andThen_normal, andThen_ret, andThen_exit, inBlk_normal, inBlk_ret, inBlk_exit, Nat.reduceEqDiff, if_true, if_false, ↓reduceIte, retQ_ret]
        try simp only [res0, res1, res2, res3, stK_e, go_sem, ia_someH, hP, h4_7, h4_5, h4_6]
        exact ⟨_, _, Less.refl _, rfl, rfl, _, rfl⟩
set_option maxHeartbeats 1000000 in
set_option maxRecDepth 100000 in
theorem sameBytes_spec {Γ : Ctx} (hP : Γ.P = Tryd.prog) {L : Hp} {va vb : Value} {a b : List Int} (ha : SlI .u8 (Cell Γ L) va a) (hb : SlI .u8 (Cell Γ L) vb b) (hab : Byte a) (hbb : Byte b) :
    SCall Γ 17 #[va, vb] L (fun v L' => v = .bool (decide (a = b)) ∧ L' = L) := by
  obtain ⟨vA, vC, rfl, _⟩ := Sl.shape ha
  obtain ⟨wA, wC, rfl, _⟩ := Sl.shape hb
  refine SCall.enter (n := 10) (res1 4) (hP ▸ Tryd.func17) rfl rfl (by simp) (res1_ok rfl) ?_
  refine SX.seq_k fun K1 hK1 => ?_
  refine SX.region_d [some 4] rfl (fun ops hops => ?_)
  unfold Dsts at hops
  simp (maxSteps := 1000000) (dsimp := false) (disch := omega) only [go_sem, ia_someH, hP, hops]
  refine hK1 _ _ ?_
  try clear hK1 K1
  refine SX.seq_k fun K2 hK2 => ?_
  refine SX.region_d [some 5, some 6, some 7, some 8, some 9, some 4] rfl (fun ops hops => ?_)
  unfold Dsts at hops
  simp (maxSteps := 1000000) (dsimp := false) (disch := omega) only [go_sem, ia_someH, hP, hops]
  refine conv_row (hP ▸ Tryd.underlying30) (hP ▸ Tryd.underlying9) (hP ▸ Tryd.underlying5) ha hab ?_
  try with_reducible refine stI ?_
  try simp (maxSteps := 1000000) (dsimp := false) (disch := omega) only [go_sem, ia_someH, hP, hops]
  refine conv_row (hP ▸ Tryd.underlying30) (hP ▸ Tryd.underlying9) (hP ▸ Tryd.underlying5) hb hbb ?_
  try with_reducible refine stI ?_
  try simp (maxSteps := 1000000) (dsimp := false) (disch := omega) only [go_sem, ia_someH, hP, hops]
  refine hK2 _ _ ?_
  try clear hK2 K2
  refine SX.ret ?_
  simp only [andThen_normal, andThen_ret, andThen_exit, inBlk_normal, inBlk_ret, inBlk_exit, Nat.reduceEqDiff, if_true, if_false, ↓reduceIte, retQ_ret]
  try simp only [res0, res1, res2, res3, stK_e, go_sem, ia_someH, hP]
  exact ⟨_, _, Less.refl _, rfl, congrArg Value.bool (decide_eq_decide.2 ⟨txt_inj hab hbb, fun h => by rw [h]⟩), rfl⟩

end Go.Proofs.YtcenlgofldnfcaaDoor
set_option linter.unusedVariables false
set_option linter.unusedSimpArgs false
namespace Go.Proofs.YtcenlgofldnfcaaDoor
open Go.RowKit Go.SX Go.Proofs
open Go.SX renaming ia_someH → Φa

/-! The document's line. -/
theorem dg_low : ∀ k, k < 10 → dg k = 48 + (k : Int) := by decide
theorem dg_high : ∀ k, k < 16 → 10 ≤ k → dg k = 97 + (k : Int) - 10 := by decide
theorem tmod16 (n : Nat) : ((n : Int)).tmod 16 = ((n % 16 : Nat) : Int) := rfl
theorem tdiv16 (n : Nat) : ((n : Int)).tdiv 16 = ((n / 16 : Nat) : Int) := rfl
theorem wrapN {z : Nat} (h : z < 4294967296) : IntKind.i64.wrap ((z / 16 : Nat) : Int) = ((z / 16 : Nat) : Int) := w64 (by omega)
theorem dg_mod (n : Nat) : dg (n % 16) = dg n := by unfold dg; rw [Nat.mod_mod]
theorem set_down {m j : Nat} (h : j < m) (S : List Int) (d : Int) : (List.replicate (m - j) 0 ++ S).set (m - 1 - j) d = List.replicate (m - (j + 1)) 0 ++ d :: S := set_suf h S d
set_option maxHeartbeats 1000000 in
set_option maxRecDepth 100000 in
theorem digit_spec {Γ : Ctx} (hP : Γ.P = Tryd.prog) {L : Hp} {k : Nat} (hk : k < 16) :
    SCall Γ 69 #[(.int .i64 (k : Int))] L (fun v L' => v = .int .u8 (dg k) ∧ L' = L) := by
  refine SCall.enter (n := 12) (res1 2) (hP ▸ Tryd.func69) rfl rfl (by simp) (res1_ok rfl) ?_
  refine SX.seq_k fun K1 hK1 => ?_
  refine SX.region_d [some 2] rfl (fun ops hops => ?_)
  unfold Dsts at hops
  simp (maxSteps:=1000000)(dsimp:=false)(disch:=omega) only [go_sem, Φa, hP, hops]
  refine hK1 _ _ ?_
  try clear hK1 K1
  refine SX.seq_k fun K2 hK2 => ?_
  refine SX.seq_k fun K3 hK3 => ?_
  refine SX.region_d [some 3, some 4] rfl (fun ops hops => ?_)
  unfold Dsts at hops
  simp (maxSteps:=1000000)(dsimp:=false)(disch:=omega) only [go_sem, Φa, hP, hops]
  repeat' ((first | refine And.intro (by omega) ?_ | fail); try (with_reducible refine stI ?_); try simp (maxSteps:=1000000)(dsimp:=false)(disch:=omega) only [go_sem, Φa, hP, hops])
  refine hK3 _ _ ?_
  try clear hK3 K3
  refine SX.cond_k fun X4 Y4 hX4 hY4 => ?_
  simp (maxSteps:=1000000)(dsimp:=false)(disch:=omega) only [go_sem, Φa, hP, condVC]
  refine ⟨fun hc4 => hX4 ?_, fun hc4 => hY4 ?_⟩
  · clear hX4 hY4 X4 Y4
    refine SX.seq_k fun K5 hK5 => ?_
    refine SX.region_d [some 5, some 6, some 7, some 2] rfl (fun ops hops => ?_)
    unfold Dsts at hops
    simp (maxSteps:=1000000)(dsimp:=false)(disch:=omega) only [go_sem, Φa, hP, hops]
    repeat' ((first | refine And.intro (by omega) ?_ | fail); try (with_reducible refine stI ?_); try simp (maxSteps:=1000000)(dsimp:=false)(disch:=omega) only [go_sem, Φa, hP, hops])
    refine hK5 _ _ ?_
    try clear hK5 K5
    refine SX.ret ?_
    simp only [andThen_normal, andThen_ret, andThen_exit, inBlk_normal, inBlk_ret, inBlk_exit, Nat.reduceEqDiff, if_true, if_false, ↓reduceIte, retQ_ret]
    try simp only [res0, res1, res2, res3, stK_e, go_sem, Φa, hP]
    exact ⟨_, _, Less.refl _, rfl, by rw [dg_low k (by omega)], rfl⟩
  · clear hX4 hY4 X4 Y4
    refine SX.skip ?_
    try simp only [andThen_normal, andThen_ret, andThen_exit, inBlk_normal, inBlk_ret, inBlk_exit, Nat.reduceEqDiff, if_true, if_false, ↓reduceIte]
    refine hK2 _ _ ?_
    try clear hK2 K2
    refine SX.seq_k fun K6 hK6 => ?_
    refine SX.region_d [some 8, some 9, some 10, some 11, some 2] rfl (fun ops hops => ?_)
    unfold Dsts at hops
    simp (maxSteps:=1000000)(dsimp:=false)(disch:=omega) only [go_sem, Φa, hP, hops]
    repeat' ((first | refine And.intro (by omega) ?_ | fail); try (with_reducible refine stI ?_); try simp (maxSteps:=1000000)(dsimp:=false)(disch:=omega) only [go_sem, Φa, hP, hops])
    refine hK6 _ _ ?_
    try clear hK6 K6
    refine SX.ret ?_
    simp only [andThen_normal, andThen_ret, andThen_exit, inBlk_normal, inBlk_ret, inBlk_exit, Nat.reduceEqDiff, if_true, if_false, ↓reduceIte, retQ_ret]
    try simp only [res0, res1, res2, res3, stK_e, go_sem, Φa, hP]
    exact ⟨_, _, Less.refl _, rfl, by rw [dg_high k hk (by omega)], rfl⟩
set_option maxHeartbeats 1000000 in
set_option maxRecDepth 100000 in
theorem refHex_spec {Γ : Ctx} (hP : Γ.P = Tryd.prog) {L : Hp} {n m : Nat} (hm0 : 1 ≤ m) (hm : m ≤ 4) (hn : n < 16 ^ m) :
    SCall Γ 50 #[(.int .i64 (n : Int)), (.int .i64 (m : Int))] L (fun v L' => v = .string (hexS n m) ∧ L' = L) := by
  refine SCall.enter (n := 37) (res1 4) (hP ▸ Tryd.func50) rfl rfl (by simp) (res1_ok rfl) ?_
  refine SX.seq_k fun K1 hK1 => ?_
  refine SX.region_d [some 4] rfl (fun ops hops => ?_)
  unfold Dsts at hops
  simp (maxSteps:=1000000)(dsimp:=false)(disch:=omega) only [go_sem, Φa, hP, hops]
  refine hK1 _ _ ?_
  try clear hK1 K1
  refine SX.seq_k fun K2 hK2 => ?_
  refine SX.seq_k fun K3 hK3 => ?_
  refine SX.region_d [some 7, some 8, some 9, some 10, some 11, some 12, some 13, some 14, some 15, some 16] rfl (fun ops hops => ?_)
  unfold Dsts at hops
  simp (maxSteps:=1000000)(dsimp:=false)(disch:=omega) only [go_sem, Φa, hP, hops]
  repeat' ((first | refine And.intro (by omega) ?_ | fail); try (with_reducible refine stI ?_); try simp (maxSteps:=1000000)(dsimp:=false)(disch:=omega) only [go_sem, Φa, hP, hops])
  refine hK3 _ _ ?_
  try clear hK3 K3
  refine SX.live [0, 1, 16] (fun T1 hT1 => ?_)
  simp only [forall_mem_cons', forall_mem_nil', go_sem, Φa, hP] at hT1
  obtain ⟨h1_0, h1_1, h1_16⟩ := hT1
  refine SX.cond_k fun X4 Y4 hX4 hY4 => ?_
  simp (maxSteps:=1000000)(dsimp:=false)(disch:=omega) only [go_sem, Φa, hP, h1_0, h1_1, h1_16, condVC]
  refine hY4 ?_
  clear hX4 hY4 X4 Y4
  refine SX.skip ?_
  try simp only [andThen_normal, andThen_ret, andThen_exit, inBlk_normal, inBlk_ret, inBlk_exit, Nat.reduceEqDiff, if_true, if_false, ↓reduceIte]
  refine hK2 _ _ ?_
  try clear hK2 K2
  refine SX.seq_k fun K5 hK5 => ?_
  refine SX.region_d [some 17, some 18, some 5] rfl (fun ops hops => ?_)
  unfold Dsts at hops
  simp (maxSteps:=1000000)(dsimp:=false)(disch:=omega) only [go_sem, Φa, hP, h1_0, h1_1, h1_16, hops]
  repeat' ((first | intro g3 | refine And.intro (by omega) ?_ | fail); try (with_reducible refine stI ?_); try simp (maxSteps:=1000000)(dsimp:=false)(disch:=omega) only [go_sem, Φa, hP, h1_0, h1_1, h1_16, hops])
  refine hK5 _ _ ?_
  try clear hK5 K5
  refine SX.seq_k fun K6 hK6 => ?_
  refine SX.seq_k fun K7 hK7 => ?_
  refine SX.region_d [some 19, some 20, some 6] rfl (fun ops hops => ?_)
  unfold Dsts at hops
  simp (maxSteps:=1000000)(dsimp:=false)(disch:=omega) only [go_sem, Φa, hP, h1_0, h1_1, h1_16, hops]
  repeat' ((first | refine And.intro (by omega) ?_ | fail); try (with_reducible refine stI ?_); try simp (maxSteps:=1000000)(dsimp:=false)(disch:=omega) only [go_sem, Φa, hP, h1_0, h1_1, h1_16, hops])
  refine hK7 _ _ ?_
  try clear hK7 K7
  refine SX.block ?_
  refine SX.live [0, 5, 6] (fun T2 hT2 => ?_)
  simp only [forall_mem_cons', forall_mem_nil', go_sem, Φa, hP, h1_0, h1_1, h1_16] at hT2
  obtain ⟨h2_0, h2_5, h2_6⟩ := hT2
  clear h1_0 h1_1 h1_16 T1
  refine SX.loop_k (fun (ss : (Nat) × (List Int)) T L' => (fun (j : Nat) (S : List Int) => T 0 = .int .i64 ((n / 16 ^ j : Nat) : Int) ∧ T 6 = .int .i64 ((m : Int) - 1 - (j : Int)) ∧ T 5 = T2 5 ∧ L' = some (g3, .cells (ints .u8 (List.replicate (m - j) 0 ++ S)).toArray 5 (0, 0)) :: L ∧ (j ≤ m ∧ S.length = j ∧ hexF n m = hexF (n / 16 ^ j) (m - j) ++ S)) (ss.1) (ss.2)) (fun (ss : (Nat) × (List Int)) => (fun (j : Nat) (S : List Int) => m - j) (ss.1) (ss.2)) (0, []) ?_ ?_
  · try dsimp only
    refine ⟨?_, ?_, ?_, ?_, ?_⟩
    · first | exact h2_0 | (rw [h2_0]; rfl) | (rw [h2_0]; simp; done)
    · first | (simp only [*]; congr 1; omega) | skip
    · rfl
    · simp [zerosV_ints]
    · exact ⟨Nat.zero_le _, rfl, by simp⟩
  · intro ss T3 L3 hI K8 hK8
    obtain ⟨j, S⟩ := ss
    try dsimp only at hI hK8
    simp only [h2_5] at hI hK8
    obtain ⟨h3_0, h3_6, h3_5, hL3, hinv⟩ := hI
    replace hL3 := hL3.symm
    subst hL3
    clear h2_0 h2_5 h2_6 T2
    refine SX.seq_k fun K9 hK9 => ?_
    refine SX.seq_k fun K10 hK10 => ?_
    refine SX.region_d [some 21, some 22] rfl (fun ops hops => ?_)
    unfold Dsts at hops
    simp (maxSteps:=1000000)(dsimp:=false)(disch:=omega) only [go_sem, Φa, hP, h3_0, h3_6, h3_5, hops]
    repeat' ((first | refine And.intro (by omega) ?_ | fail); try (with_reducible refine stI ?_); try simp (maxSteps:=1000000)(dsimp:=false)(disch:=omega) only [go_sem, Φa, hP, h3_0, h3_6, h3_5, hops])
    refine hK10 _ _ ?_
    try clear hK10 K10
    refine SX.cond_k fun X11 Y11 hX11 hY11 => ?_
    simp (maxSteps:=1000000)(dsimp:=false)(disch:=omega) only [go_sem, Φa, hP, h3_0, h3_6, h3_5, condVC]
    refine ⟨fun hc22 => hX11 ?_, fun hc22 => hY11 ?_⟩
    · clear hX11 hY11 X11 Y11
      refine SX.skip ?_
      try simp only [andThen_normal, andThen_ret, andThen_exit, inBlk_normal, inBlk_ret, inBlk_exit, Nat.reduceEqDiff, if_true, if_false, ↓reduceIte]
      refine hK9 _ _ ?_
      try clear hK9 K9
      refine SX.seq_k fun K12 hK12 => ?_
      refine SX.block ?_
      refine SX.seq_k fun K13 hK13 => ?_
      have hjm : j < m := by omega
      have hix : ((m : Int) - 1 - (j : Int)).toNat = m - 1 - j := by omega
      refine SX.region_d [some 25, some 26, some 27, some 28, some 29, some 30, none] rfl (fun ops hops => ?_)
      unfold Dsts at hops
      simp (maxSteps:=1000000)(dsimp:=false)(disch:=omega) only [go_sem, Φa, hP, h3_0, h3_6, h3_5, hops, hix, tmod16]
      refine SCall.mono (digit_spec hP (k := (n / 16 ^ j) % 16) (Nat.mod_lt _ (by decide))) ?_
      rintro v_ L_ ⟨hv_, hL_⟩
      rw [hv_, hL_]
      clear hv_ hL_ v_ L_
      rw [dg_mod]
      try with_reducible refine stI ?_
      try simp (maxSteps:=1000000)(dsimp:=false)(disch:=omega) only [go_sem, Φa, hP, h3_0, h3_6, h3_5, hops, hix, tmod16]
      refine ⟨0, _, _, _, rfl, by simp [ints]; omega, .inr (Nat.zero_le _), ?_⟩
      try with_reducible refine stI ?_
      try simp (maxSteps:=1000000)(dsimp:=false)(disch:=omega) only [go_sem, Φa, hP, h3_0, h3_6, h3_5, hops, hix, tmod16]
      rw [ints_set]
      refine hK13 _ _ ?_
      try clear hK13 K13
      have hq : n / 16 ^ j < 4294967296 := Nat.lt_of_le_of_lt (Nat.div_le_self _ _) (by have : 16 ^ m ≤ 16 ^ 4 := Nat.pow_le_pow_right (by decide) hm; omega)
      refine SX.region_d [some 31, some 32, some 0] rfl (fun ops hops => ?_)
      unfold Dsts at hops
      simp (maxSteps:=1000000)(dsimp:=false)(disch:=omega) only [go_sem, Φa, hP, h3_0, h3_6, h3_5, hops, tdiv16]
      repeat' ((first | refine And.intro (by omega) ?_ | fail); try (with_reducible refine stI ?_); try simp (maxSteps:=1000000)(dsimp:=false)(disch:=omega) only [go_sem, Φa, hP, h3_0, h3_6, h3_5, hops, tdiv16])
      refine hK12 _ _ ?_
      try clear hK12 K12
      refine SX.live [0, 5, 6] (fun T4 hT4 => ?_)
      simp only [forall_mem_cons', forall_mem_nil', go_sem, Φa, hP, h3_0, h3_6, h3_5] at hT4
      obtain ⟨h4_0, h4_5, h4_6⟩ := hT4
      clear h3_0 h3_6 h3_5 T3
      refine SX.region_d [some 23, some 24, some 6] rfl (fun ops hops => ?_)
      unfold Dsts at hops
      simp (maxSteps:=1000000)(dsimp:=false)(disch:=omega) only [go_sem, Φa, hP, h4_0, h4_5, h4_6, hops]
      repeat' ((first | refine And.intro (by omega) ?_ | fail); try (with_reducible refine stI ?_); try simp (maxSteps:=1000000)(dsimp:=false)(disch:=omega) only [go_sem, Φa, hP, h4_0, h4_5, h4_6, hops])
      refine hK8 (j + 1, dg (n / 16 ^ j) :: S) _ (_) _ (by first | exact Less.refl _ | exact Less.drop _ _ | exact Less.drops (Less.drop _ _) | exact Less.drops (Less.drops (Less.drop _ _)) | exact Less.drops (Less.drops (Less.drops (Less.drop _ _))) | exact Less.drops (Less.drops (Less.drops (Less.drops (Less.drop _ _))))) ?_ ?_
      · try dsimp only
        refine ⟨?_, ?_, ?_, ?_, ?_⟩
        · simp (maxSteps:=1000000)(dsimp:=false)(disch:=omega) only [go_sem, Φa, hP, h4_0, h4_5, h4_6]
          rw [wrapN hq, div16]
        · simp (maxSteps:=1000000)(dsimp:=false)(disch:=omega) only [go_sem, Φa, hP, h4_0, h4_5, h4_6]
          congr 1; omega
        · simp (maxSteps:=1000000)(dsimp:=false)(disch:=omega) only [go_sem, Φa, hP, h4_0, h4_5, h4_6]
        · rw [set_down (by omega)]
        · refine ⟨by omega, by simp [hinv.2.1], ?_⟩
          rw [hinv.2.2, show m - j = (m - (j + 1)) + 1 by omega, hexF, div16, List.append_assoc]
          rfl
      · (try dsimp only); omega
    · clear hX11 hY11 X11 Y11
      refine SX.exit ?_
      try simp only [andThen_normal, andThen_ret, andThen_exit, inBlk_normal, inBlk_ret, inBlk_exit, Nat.reduceEqDiff, if_true, if_false, ↓reduceIte]
      refine hK6 _ _ ?_
      try clear hK6 K6
      refine SX.seq_k fun K14 hK14 => ?_
      refine SX.seq_k fun K15 hK15 => ?_
      obtain rfl : j = m := by omega
      have hz : n / 16 ^ j = 0 := Nat.div_eq_of_lt hn
      have hS : hexF n j = S := by rw [hinv.2.2, Nat.sub_self]; rfl
      have hrow : SlI .u8 (Cell Γ (some (g3, .cells (ints .u8 (List.replicate (j - j) 0 ++ S)).toArray 5 (0, 0)) :: L)) (.slice (some ⟨g3, 0, none⟩) j j) (hexF n j) := SlI.own 0 (by rw [hS, Nat.sub_self]; rfl) (by rw [hexF_length]) (Nat.le_refl _)
      refine SX.region_d [some 33, some 34] rfl (fun ops hops => ?_)
      unfold Dsts at hops
      simp (maxSteps:=1000000)(dsimp:=false)(disch:=omega) only [go_sem, Φa, hP, h3_0, h3_6, h3_5, hops, hz]
      repeat' ((first | refine And.intro (by omega) ?_ | fail); try (with_reducible refine stI ?_); try simp (maxSteps:=1000000)(dsimp:=false)(disch:=omega) only [go_sem, Φa, hP, h3_0, h3_6, h3_5, hops, hz])
      refine hK15 _ _ ?_
      try clear hK15 K15
      refine SX.cond_k fun X16 Y16 hX16 hY16 => ?_
      simp (maxSteps:=1000000)(dsimp:=false)(disch:=omega) only [go_sem, Φa, hP, h3_0, h3_6, h3_5, condVC]
      refine hY16 ?_
      clear hX16 hY16 X16 Y16
      refine SX.skip ?_
      try simp only [andThen_normal, andThen_ret, andThen_exit, inBlk_normal, inBlk_ret, inBlk_exit, Nat.reduceEqDiff, if_true, if_false, ↓reduceIte]
      refine hK14 _ _ ?_
      try clear hK14 K14
      refine SX.seq_k fun K17 hK17 => ?_
      refine SX.region_d [some 35, some 36, some 4] rfl (fun ops hops => ?_)
      unfold Dsts at hops
      simp (maxSteps:=1000000)(dsimp:=false)(disch:=omega) only [go_sem, Φa, hP, h3_0, h3_6, h3_5, hops]
      refine conv_row (hP ▸ Tryd.underlying30) (hP ▸ Tryd.underlying9) (hP ▸ Tryd.underlying5) hrow (hexF_byte _ _) ?_
      try with_reducible refine stI ?_
      try simp (maxSteps:=1000000)(dsimp:=false)(disch:=omega) only [go_sem, Φa, hP, h3_0, h3_6, h3_5, hops]
      refine hK17 _ _ ?_
      try clear hK17 K17
      refine SX.ret ?_
      simp only [andThen_normal, andThen_ret, andThen_exit, inBlk_normal, inBlk_ret, inBlk_exit, Nat.reduceEqDiff, if_true, if_false, ↓reduceIte, retQ_ret]
      try simp only [res0, res1, res2, res3, stK_e, go_sem, Φa, hP, h3_0, h3_6, h3_5]
      exact ⟨_, _, Less.drop _ _, rfl, rfl, rfl⟩

def sp : ByteArray := ⟨#[32]⟩
def p3 (x : Rc) : ByteArray := ⟨#[115]⟩ ++ txt [48 + x.code] ++ ⟨#[32]⟩ ++ hexS x.ad.toNat 4 ++ ⟨#[32]⟩ ++ hexS x.data.toNat 2
def p4 (x : Rc) : ByteArray := if x.rd = true then p3 x ++ ⟨#[32, 114]⟩ else p3 x
def p5 (x : Rc) : ByteArray := if x.wr = true then p4 x ++ ⟨#[32, 119]⟩ else p4 x
def p6 (x : Rc) : ByteArray := if x.port = 0 then p5 x else p5 x ++ ⟨#[32, 110]⟩ ++ txt [48 + x.port]
def p7 (x : Rc) : ByteArray := if x.q = true then p6 x ++ ⟨#[32, 113]⟩ else p6 x
def p8 (x : Rc) : ByteArray := if x.md = 1 then p7 x ++ ⟨#[32, 112, 97, 117, 115, 101]⟩ else if x.md = 2 then p7 x ++ ⟨#[32, 114, 101, 115, 101, 116]⟩ else if x.md = 3 then p7 x ++ ⟨#[32, 108, 111, 97, 100]⟩ else p7 x
theorem p3_size (x : Rc) : (p3 x).size = 10 := by
  unfold p3
  simp only [bapp_size, hexS_size, txt_size]
  rfl
theorem p4_size (x : Rc) : (p4 x).size ≤ 12 := by unfold p4; split <;> simp only [bapp_size, p3_size] <;> decide
theorem p5_size (x : Rc) : (p5 x).size ≤ 14 := by
  have := p4_size x
  unfold p5; split
  · rw [bapp_size]; have : (⟨#[32, 119]⟩ : ByteArray).size = 2 := rfl; omega
  · omega
theorem p6_size (x : Rc) : (p6 x).size ≤ 17 := by
  have := p5_size x
  unfold p6; split
  · omega
  · rw [bapp_size, bapp_size, txt_size]; have : (⟨#[32, 110]⟩ : ByteArray).size = 2 := rfl; simp only [List.length_cons, List.length_nil]; omega
theorem p7_size (x : Rc) : (p7 x).size ≤ 19 := by
  have := p6_size x
  unfold p7; split
  · rw [bapp_size]; have : (⟨#[32, 113]⟩ : ByteArray).size = 2 := rfl; omega
  · omega
set_option maxHeartbeats 1000000 in
set_option maxRecDepth 100000 in
theorem refLine_p8 {Γ : Ctx} (hP : Γ.P = Tryd.prog) {L : Hp} {x : Rc} (ho : OkR x) (hm : mayB x = true) :
    SCall Γ 33 #[(.agg x.cells.toArray)] L (fun v L' => v = .string (p8 x) ∧ L' = L) := by
  have hcd := ho.code
  have had := ho.ad
  have hda := ho.data
  have hpo := ho.port
  have hmd := ho.md
  have ad_nat : x.ad = ((x.ad.toNat : Nat) : Int) := by omega
  have data_nat : x.data = ((x.data.toNat : Nat) : Int) := by omega
  simp only [mayB, Bool.and_eq_true, decide_eq_true_eq] at hm
  obtain ⟨⟨⟨hm1, hm2⟩, hm3⟩, hm4⟩ := hm
  refine SCall.enter (n := 60) (res1 2) (hP ▸ Tryd.func33) rfl rfl (by simp) (res1_ok rfl) ?_
  refine SX.seq_k fun K1 hK1 => ?_
  refine SX.region_d [some 1, some 2] rfl (fun ops hops => ?_)
  unfold Dsts at hops
  simp (maxSteps:=1000000)(dsimp:=false)(disch:=omega) only [go_sem, Φa, hP, hops]
  intro b0
  try with_reducible refine stI ?_
  try simp (maxSteps:=1000000)(dsimp:=false)(disch:=omega) only [go_sem, Φa, hP, hops]
  refine hK1 _ _ ?_
  try clear hK1 K1
  refine SX.live [1] (fun T1 hT1 => ?_)
  simp only [forall_mem_cons', forall_mem_nil', go_sem, Φa, hP] at hT1
  have h1_1 := hT1; clear hT1
  refine SX.join (fun (ss : Unit) T L' => T 3 = .string (p3 x) ∧ T 1 = T1 1 ∧ L' = some (b0, .cells x.cells.toArray 46 (0, 0)) :: L ∧ (True)) (fun K2 hK2 => ?_) ?_
  · simp only [h1_1] at hK2
    refine SX.drawn_d [(0, .q), (1, .q), (2, .q), (7, .q), (8, .q), (9, .q), (13, .q), (14, .q), (15, .q), (10, .c), (16, .c), (3, .e), (4, .q), (5, .q), (6, .q), (11, .q), (12, .q), (17, .q), (18, .q)] (fun L => L) (hP ▸ T.mixed) (by kernel_rfl) (by exact Less.refl _) [some 4, some 5, some 6, some 7, some 8, some 9, some 10, some 11, some 12, some 13, some 14, some 15, some 16, some 17, some 18, some 19, some 20, some 21, some 3] rfl (fun ops hops hopl => ?_)
    unfold Dsts at hops
    simp (maxSteps:=1000000)(dsimp:=false)(disch:=omega) only [go_sem, Φa, hP, h1_1, hops, hopl]
    refine ⟨_, Cell.at 0 rfl (show (Rc.cells _)[0]? = _ from rfl), ?_⟩
    try with_reducible refine stI ?_
    try simp (maxSteps:=1000000)(dsimp:=false)(disch:=omega) only [go_sem, Φa, hP, h1_1, hops, hopl]
    refine ⟨_, Cell.at 0 rfl (show (Rc.cells _)[1]? = _ from rfl), ?_⟩
    try with_reducible refine stI ?_
    try simp (maxSteps:=1000000)(dsimp:=false)(disch:=omega) only [go_sem, Φa, hP, h1_1, hops, hopl]
    rw [show (Value.int .i64 x.ad) = .int .i64 ((x.ad.toNat : Nat) : Int) by rw [← ad_nat]]
    refine ⟨_, Cell.at 0 rfl (show (Rc.cells _)[2]? = _ from rfl), ?_⟩
    try with_reducible refine stI ?_
    try simp (maxSteps:=1000000)(dsimp:=false)(disch:=omega) only [go_sem, Φa, hP, h1_1, hops, hopl]
    rw [show (Value.int .i64 x.data) = .int .i64 ((x.data.toNat : Nat) : Int) by rw [← data_nat]]
    refine ⟨_, fun L0 hl0 => refHex_spec (n := x.ad.toNat) (m := 4) hP (by decide) (by decide) (by omega), ?_⟩
    try with_reducible refine stI ?_
    try simp (maxSteps:=1000000)(dsimp:=false)(disch:=omega) only [go_sem, Φa, hP, h1_1, hops, hopl]
    refine ⟨_, fun L0 hl0 => refHex_spec (n := x.data.toNat) (m := 2) hP (by decide) (by decide) (by omega), ?_⟩
    try with_reducible refine stI ?_
    try simp (maxSteps:=1000000)(dsimp:=false)(disch:=omega) only [go_sem, Φa, hP, h1_1, hops, hopl]
    intro b7
    try with_reducible refine stI ?_
    try simp (maxSteps:=1000000)(dsimp:=false)(disch:=omega) only [go_sem, Φa, hP, h1_1, hops, hopl]
    refine conv_row (l := [48 + x.code]) (hP ▸ Tryd.underlying30) (hP ▸ Tryd.underlying9) (hP ▸ Tryd.underlying5) (SlI.own 0 rfl rfl (Nat.le_refl _)) (fun y hy => by rw [List.mem_singleton.1 hy]; omega) ?_
    try with_reducible refine stI ?_
    try simp (maxSteps:=1000000)(dsimp:=false)(disch:=omega) only [go_sem, Φa, hP, h1_1, hops, hopl]
    refine And.intro (by simp only [txt_size, hexS_size, List.length_cons, List.length_nil]; omega) ?_
    try with_reducible refine stI ?_
    try simp (maxSteps:=1000000)(dsimp:=false)(disch:=omega) only [go_sem, Φa, hP, h1_1, hops, hopl]
    refine And.intro (by simp only [txt_size, hexS_size, List.length_cons, List.length_nil]; omega) ?_
    try with_reducible refine stI ?_
    try simp (maxSteps:=1000000)(dsimp:=false)(disch:=omega) only [go_sem, Φa, hP, h1_1, hops, hopl]
    refine And.intro (by simp only [txt_size, hexS_size, List.length_cons, List.length_nil]; omega) ?_
    try with_reducible refine stI ?_
    try simp (maxSteps:=1000000)(dsimp:=false)(disch:=omega) only [go_sem, Φa, hP, h1_1, hops, hopl]
    refine And.intro (by simp only [txt_size, hexS_size, List.length_cons, List.length_nil]; omega) ?_
    try with_reducible refine stI ?_
    try simp (maxSteps:=1000000)(dsimp:=false)(disch:=omega) only [go_sem, Φa, hP, h1_1, hops, hopl]
    refine And.intro (by simp only [txt_size, hexS_size, List.length_cons, List.length_nil]; omega) ?_
    try with_reducible refine stI ?_
    try simp (maxSteps:=1000000)(dsimp:=false)(disch:=omega) only [go_sem, Φa, hP, h1_1, hops, hopl]
    refine hK2 () _ (some (b0, .cells x.cells.toArray 46 (0, 0)) :: L) _ (by exact Less.drop _ _) ?_
    try dsimp only
    refine ⟨?_, ?_, ?_, ?_⟩
    · simp (maxSteps:=1000000)(dsimp:=false)(disch:=omega) only [go_sem, Φa, hP, h1_1]
      first | done | rfl
    · simp (maxSteps:=1000000)(dsimp:=false)(disch:=omega) only [go_sem, Φa, hP, h1_1]
    · rfl
    · trivial
  · intro ss T2 L2 hI
    simp only [h1_1] at hI 
    obtain ⟨h2_3, h2_1, hL2, hinv⟩ := hI
    replace hL2 := hL2.symm
    subst hL2
    clear h1_1 T1
    refine SX.live [1, 3] (fun T3 hT3 => ?_)
    simp only [forall_mem_cons', forall_mem_nil', go_sem, Φa, hP, h2_3, h2_1] at hT3
    obtain ⟨h3_1, h3_3⟩ := hT3
    clear h2_3 h2_1 T2
    refine SX.join (fun (ss : Unit) T L' => T 3 = .string (p4 x) ∧ T 1 = T3 1 ∧ L' = some (b0, .cells x.cells.toArray 46 (0, 0)) :: L ∧ (True)) (fun K3 hK3 => ?_) ?_
    · simp only [h3_1] at hK3
      refine SX.seq_k fun K4 hK4 => ?_
      refine SX.region_d [some 22, some 23] rfl (fun ops hops => ?_)
      unfold Dsts at hops
      simp (maxSteps:=1000000)(dsimp:=false)(disch:=omega) only [go_sem, Φa, hP, h3_1, h3_3, hops]
      refine ⟨_, Cell.at 0 rfl (show (Rc.cells _)[3]? = _ from rfl), ?_⟩
      try with_reducible refine stI ?_
      try simp (maxSteps:=1000000)(dsimp:=false)(disch:=omega) only [go_sem, Φa, hP, h3_1, h3_3, hops]
      refine hK4 _ _ ?_
      try clear hK4 K4
      refine SX.cond_k fun X5 Y5 hX5 hY5 => ?_
      simp (maxSteps:=1000000)(dsimp:=false)(disch:=omega) only [go_sem, Φa, hP, h3_1, h3_3, condVC]
      refine ⟨fun hc23 => hX5 ?_, fun hc23 => hY5 ?_⟩
      · clear hX5 hY5 X5 Y5
        refine SX.region_d [some 24, some 25, some 3] rfl (fun ops hops => ?_)
        unfold Dsts at hops
        simp (maxSteps:=1000000)(dsimp:=false)(disch:=omega) only [go_sem, Φa, hP, h3_1, h3_3, hops]
        refine And.intro (by have := p3_size x; omega) ?_
        try with_reducible refine stI ?_
        try simp (maxSteps:=1000000)(dsimp:=false)(disch:=omega) only [go_sem, Φa, hP, h3_1, h3_3, hops]
        refine hK3 () _ (some (b0, .cells x.cells.toArray 46 (0, 0)) :: L) _ (by first | exact Less.refl _ | exact Less.drop _ _) ?_
        try dsimp only
        refine ⟨?_, ?_, ?_, ?_⟩
        · simp (maxSteps:=1000000)(dsimp:=false)(disch:=omega) only [go_sem, Φa, hP, h3_1, h3_3]
          first | (unfold p4; rw [if_pos hc23]; done) | (unfold p4; rw [if_pos hc23]; rfl)
        · simp (maxSteps:=1000000)(dsimp:=false)(disch:=omega) only [go_sem, Φa, hP, h3_1, h3_3]
        · rfl
        · trivial
      · clear hX5 hY5 X5 Y5
        refine SX.skip ?_
        try simp only [andThen_normal, andThen_ret, andThen_exit, inBlk_normal, inBlk_ret, inBlk_exit, Nat.reduceEqDiff, if_true, if_false, ↓reduceIte]
        refine hK3 () _ (some (b0, .cells x.cells.toArray 46 (0, 0)) :: L) _ (by first | exact Less.refl _ | exact Less.drop _ _) ?_
        try dsimp only
        refine ⟨?_, ?_, ?_, ?_⟩
        · simp (maxSteps:=1000000)(dsimp:=false)(disch:=omega) only [go_sem, Φa, hP, h3_1, h3_3]
          first | (unfold p4; rw [if_neg (by rw [hc23]; simp)]; done) | (unfold p4; rw [if_neg (by rw [hc23]; simp)]; rfl)
        · simp (maxSteps:=1000000)(dsimp:=false)(disch:=omega) only [go_sem, Φa, hP, h3_1, h3_3]
        · rfl
        · trivial
    · intro ss T4 L4 hI
      simp only [h3_1] at hI 
      obtain ⟨h4_3, h4_1, hL4, hinv⟩ := hI
      replace hL4 := hL4.symm
      subst hL4
      clear h3_1 h3_3 T3
      refine SX.live [1, 3] (fun T5 hT5 => ?_)
      simp only [forall_mem_cons', forall_mem_nil', go_sem, Φa, hP, h4_3, h4_1] at hT5
      obtain ⟨h5_1, h5_3⟩ := hT5
      clear h4_3 h4_1 T4
      refine SX.join (fun (ss : Unit) T L' => T 3 = .string (p5 x) ∧ T 1 = T5 1 ∧ L' = some (b0, .cells x.cells.toArray 46 (0, 0)) :: L ∧ (True)) (fun K6 hK6 => ?_) ?_
      · simp only [h5_1] at hK6
        refine SX.seq_k fun K7 hK7 => ?_
        refine SX.region_d [some 26, some 27] rfl (fun ops hops => ?_)
        unfold Dsts at hops
        simp (maxSteps:=1000000)(dsimp:=false)(disch:=omega) only [go_sem, Φa, hP, h5_1, h5_3, hops]
        refine ⟨_, Cell.at 0 rfl (show (Rc.cells _)[4]? = _ from rfl), ?_⟩
        try with_reducible refine stI ?_
        try simp (maxSteps:=1000000)(dsimp:=false)(disch:=omega) only [go_sem, Φa, hP, h5_1, h5_3, hops]
        refine hK7 _ _ ?_
        try clear hK7 K7
        refine SX.cond_k fun X8 Y8 hX8 hY8 => ?_
        simp (maxSteps:=1000000)(dsimp:=false)(disch:=omega) only [go_sem, Φa, hP, h5_1, h5_3, condVC]
        refine ⟨fun hc27 => hX8 ?_, fun hc27 => hY8 ?_⟩
        · clear hX8 hY8 X8 Y8
          refine SX.region_d [some 28, some 29, some 3] rfl (fun ops hops => ?_)
          unfold Dsts at hops
          simp (maxSteps:=1000000)(dsimp:=false)(disch:=omega) only [go_sem, Φa, hP, h5_1, h5_3, hops]
          refine And.intro (by have := p4_size x; omega) ?_
          try with_reducible refine stI ?_
          try simp (maxSteps:=1000000)(dsimp:=false)(disch:=omega) only [go_sem, Φa, hP, h5_1, h5_3, hops]
          refine hK6 () _ (some (b0, .cells x.cells.toArray 46 (0, 0)) :: L) _ (by first | exact Less.refl _ | exact Less.drop _ _) ?_
          try dsimp only
          refine ⟨?_, ?_, ?_, ?_⟩
          · simp (maxSteps:=1000000)(dsimp:=false)(disch:=omega) only [go_sem, Φa, hP, h5_1, h5_3]
            first | (unfold p5; rw [if_pos hc27]; done) | (unfold p5; rw [if_pos hc27]; rfl)
          · simp (maxSteps:=1000000)(dsimp:=false)(disch:=omega) only [go_sem, Φa, hP, h5_1, h5_3]
          · rfl
          · trivial
        · clear hX8 hY8 X8 Y8
          refine SX.skip ?_
          try simp only [andThen_normal, andThen_ret, andThen_exit, inBlk_normal, inBlk_ret, inBlk_exit, Nat.reduceEqDiff, if_true, if_false, ↓reduceIte]
          refine hK6 () _ (some (b0, .cells x.cells.toArray 46 (0, 0)) :: L) _ (by first | exact Less.refl _ | exact Less.drop _ _) ?_
          try dsimp only
          refine ⟨?_, ?_, ?_, ?_⟩
          · simp (maxSteps:=1000000)(dsimp:=false)(disch:=omega) only [go_sem, Φa, hP, h5_1, h5_3]
            first | (unfold p5; rw [if_neg (by rw [hc27]; simp)]; done) | (unfold p5; rw [if_neg (by rw [hc27]; simp)]; rfl)
          · simp (maxSteps:=1000000)(dsimp:=false)(disch:=omega) only [go_sem, Φa, hP, h5_1, h5_3]
          · rfl
          · trivial
      · intro ss T6 L6 hI
        simp only [h5_1] at hI 
        obtain ⟨h6_3, h6_1, hL6, hinv⟩ := hI
        replace hL6 := hL6.symm
        subst hL6
        clear h5_1 h5_3 T5
        refine SX.live [1, 3] (fun T7 hT7 => ?_)
        simp only [forall_mem_cons', forall_mem_nil', go_sem, Φa, hP, h6_3, h6_1] at hT7
        obtain ⟨h7_1, h7_3⟩ := hT7
        clear h6_3 h6_1 T6
        refine SX.join (fun (ss : Unit) T L' => T 3 = .string (p6 x) ∧ T 1 = T7 1 ∧ L' = some (b0, .cells x.cells.toArray 46 (0, 0)) :: L ∧ (True)) (fun K9 hK9 => ?_) ?_
        · simp only [h7_1] at hK9
          refine SX.seq_k fun K10 hK10 => ?_
          refine SX.region_d [some 30, some 31, some 32] rfl (fun ops hops => ?_)
          unfold Dsts at hops
          simp (maxSteps:=1000000)(dsimp:=false)(disch:=omega) only [go_sem, Φa, hP, h7_1, h7_3, hops]
          refine ⟨_, Cell.at 0 rfl (show (Rc.cells _)[5]? = _ from rfl), ?_⟩
          try with_reducible refine stI ?_
          try simp (maxSteps:=1000000)(dsimp:=false)(disch:=omega) only [go_sem, Φa, hP, h7_1, h7_3, hops]
          refine hK10 _ _ ?_
          try clear hK10 K10
          refine SX.cond_k fun X11 Y11 hX11 hY11 => ?_
          simp (maxSteps:=1000000)(dsimp:=false)(disch:=omega) only [go_sem, Φa, hP, h7_1, h7_3, condVC]
          refine ⟨fun hc32 => hX11 ?_, fun hc32 => hY11 ?_⟩
          · clear hX11 hY11 X11 Y11
            refine SX.region_d [some 33, some 34, some 35, some 36, some 37, some 38, some 39, some 40, some 3] rfl (fun ops hops => ?_)
            unfold Dsts at hops
            simp (maxSteps:=1000000)(dsimp:=false)(disch:=omega) only [go_sem, Φa, hP, h7_1, h7_3, hops]
            refine And.intro (by have := p5_size x; omega) ?_
            try with_reducible refine stI ?_
            try simp (maxSteps:=1000000)(dsimp:=false)(disch:=omega) only [go_sem, Φa, hP, h7_1, h7_3, hops]
            refine ⟨_, Cell.at 0 rfl (show (Rc.cells _)[5]? = _ from rfl), ?_⟩
            try with_reducible refine stI ?_
            try simp (maxSteps:=1000000)(dsimp:=false)(disch:=omega) only [go_sem, Φa, hP, h7_1, h7_3, hops]
            intro b38
            try with_reducible refine stI ?_
            try simp (maxSteps:=1000000)(dsimp:=false)(disch:=omega) only [go_sem, Φa, hP, h7_1, h7_3, hops]
            refine conv_row (l := [48 + x.port]) (hP ▸ Tryd.underlying30) (hP ▸ Tryd.underlying9) (hP ▸ Tryd.underlying5) (SlI.own 0 rfl rfl (Nat.le_refl _)) (fun y hy => by rw [List.mem_singleton.1 hy]; omega) ?_
            try with_reducible refine stI ?_
            try simp (maxSteps:=1000000)(dsimp:=false)(disch:=omega) only [go_sem, Φa, hP, h7_1, h7_3, hops]
            refine And.intro (by have := p5_size x; simp only [txt_size, List.length_cons, List.length_nil]; omega) ?_
            try with_reducible refine stI ?_
            try simp (maxSteps:=1000000)(dsimp:=false)(disch:=omega) only [go_sem, Φa, hP, h7_1, h7_3, hops]
            refine hK9 () _ (some (b0, .cells x.cells.toArray 46 (0, 0)) :: L) _ (by first | exact Less.refl _ | exact Less.drop _ _) ?_
            try dsimp only
            refine ⟨?_, ?_, ?_, ?_⟩
            · simp (maxSteps:=1000000)(dsimp:=false)(disch:=omega) only [go_sem, Φa, hP, h7_1, h7_3]
              first | (unfold p6; rw [if_neg (by simpa using hc32)]; done) | (unfold p6; rw [if_neg (by simpa using hc32)]; rfl)
            · simp (maxSteps:=1000000)(dsimp:=false)(disch:=omega) only [go_sem, Φa, hP, h7_1, h7_3]
            · rfl
            · trivial
          · clear hX11 hY11 X11 Y11
            refine SX.skip ?_
            try simp only [andThen_normal, andThen_ret, andThen_exit, inBlk_normal, inBlk_ret, inBlk_exit, Nat.reduceEqDiff, if_true, if_false, ↓reduceIte]
            refine hK9 () _ (some (b0, .cells x.cells.toArray 46 (0, 0)) :: L) _ (by first | exact Less.refl _ | exact Less.drop _ _) ?_
            try dsimp only
            refine ⟨?_, ?_, ?_, ?_⟩
            · simp (maxSteps:=1000000)(dsimp:=false)(disch:=omega) only [go_sem, Φa, hP, h7_1, h7_3]
              first | (unfold p6; rw [if_pos (by simpa using hc32)]; done) | (unfold p6; rw [if_pos (by simpa using hc32)]; rfl)
            · simp (maxSteps:=1000000)(dsimp:=false)(disch:=omega) only [go_sem, Φa, hP, h7_1, h7_3]
            · rfl
            · trivial
        · intro ss T8 L8 hI
          simp only [h7_1] at hI 
          obtain ⟨h8_3, h8_1, hL8, hinv⟩ := hI
          replace hL8 := hL8.symm
          subst hL8
          clear h7_1 h7_3 T7
          refine SX.live [1, 3] (fun T9 hT9 => ?_)
          simp only [forall_mem_cons', forall_mem_nil', go_sem, Φa, hP, h8_3, h8_1] at hT9
          obtain ⟨h9_1, h9_3⟩ := hT9
          clear h8_3 h8_1 T8
          refine SX.join (fun (ss : Unit) T L' => T 3 = .string (p7 x) ∧ T 1 = T9 1 ∧ L' = some (b0, .cells x.cells.toArray 46 (0, 0)) :: L ∧ (True)) (fun K12 hK12 => ?_) ?_
          · simp only [h9_1] at hK12
            refine SX.seq_k fun K13 hK13 => ?_
            refine SX.region_d [some 41, some 42] rfl (fun ops hops => ?_)
            unfold Dsts at hops
            simp (maxSteps:=1000000)(dsimp:=false)(disch:=omega) only [go_sem, Φa, hP, h9_1, h9_3, hops]
            refine ⟨_, Cell.at 0 rfl (show (Rc.cells _)[6]? = _ from rfl), ?_⟩
            try with_reducible refine stI ?_
            try simp (maxSteps:=1000000)(dsimp:=false)(disch:=omega) only [go_sem, Φa, hP, h9_1, h9_3, hops]
            refine hK13 _ _ ?_
            try clear hK13 K13
            refine SX.cond_k fun X14 Y14 hX14 hY14 => ?_
            simp (maxSteps:=1000000)(dsimp:=false)(disch:=omega) only [go_sem, Φa, hP, h9_1, h9_3, condVC]
            refine ⟨fun hc42 => hX14 ?_, fun hc42 => hY14 ?_⟩
            · clear hX14 hY14 X14 Y14
              refine SX.region_d [some 43, some 44, some 3] rfl (fun ops hops => ?_)
              unfold Dsts at hops
              simp (maxSteps:=1000000)(dsimp:=false)(disch:=omega) only [go_sem, Φa, hP, h9_1, h9_3, hops]
              refine And.intro (by have := p6_size x; omega) ?_
              try with_reducible refine stI ?_
              try simp (maxSteps:=1000000)(dsimp:=false)(disch:=omega) only [go_sem, Φa, hP, h9_1, h9_3, hops]
              refine hK12 () _ (some (b0, .cells x.cells.toArray 46 (0, 0)) :: L) _ (by first | exact Less.refl _ | exact Less.drop _ _) ?_
              try dsimp only
              refine ⟨?_, ?_, ?_, ?_⟩
              · simp (maxSteps:=1000000)(dsimp:=false)(disch:=omega) only [go_sem, Φa, hP, h9_1, h9_3]
                first | (unfold p7; rw [if_pos hc42]; done) | (unfold p7; rw [if_pos hc42]; rfl)
              · simp (maxSteps:=1000000)(dsimp:=false)(disch:=omega) only [go_sem, Φa, hP, h9_1, h9_3]
              · rfl
              · trivial
            · clear hX14 hY14 X14 Y14
              refine SX.skip ?_
              try simp only [andThen_normal, andThen_ret, andThen_exit, inBlk_normal, inBlk_ret, inBlk_exit, Nat.reduceEqDiff, if_true, if_false, ↓reduceIte]
              refine hK12 () _ (some (b0, .cells x.cells.toArray 46 (0, 0)) :: L) _ (by first | exact Less.refl _ | exact Less.drop _ _) ?_
              try dsimp only
              refine ⟨?_, ?_, ?_, ?_⟩
              · simp (maxSteps:=1000000)(dsimp:=false)(disch:=omega) only [go_sem, Φa, hP, h9_1, h9_3]
                first | (unfold p7; rw [if_neg (by rw [hc42]; simp)]; done) | (unfold p7; rw [if_neg (by rw [hc42]; simp)]; rfl)
              · simp (maxSteps:=1000000)(dsimp:=false)(disch:=omega) only [go_sem, Φa, hP, h9_1, h9_3]
              · rfl
              · trivial
          · intro ss T10 L10 hI
            simp only [h9_1] at hI 
            obtain ⟨h10_3, h10_1, hL10, hinv⟩ := hI
            replace hL10 := hL10.symm
            subst hL10
            clear h9_1 h9_3 T9
            refine SX.live [1, 3] (fun T11 hT11 => ?_)
            simp only [forall_mem_cons', forall_mem_nil', go_sem, Φa, hP, h10_3, h10_1] at hT11
            obtain ⟨h11_1, h11_3⟩ := hT11
            clear h10_3 h10_1 T10
            refine SX.join (fun (ss : Unit) T L' => T 3 = .string (p8 x) ∧ L' = some (b0, .cells x.cells.toArray 46 (0, 0)) :: L ∧ (True)) (fun K15 hK15 => ?_) ?_
            · refine SX.seq_k fun K16 hK16 => ?_
              refine SX.region_d [some 45, some 46] rfl (fun ops hops => ?_)
              unfold Dsts at hops
              simp (maxSteps:=1000000)(dsimp:=false)(disch:=omega) only [go_sem, Φa, hP, h11_1, h11_3, hops]
              refine ⟨_, Cell.at 0 rfl (show (Rc.cells _)[7]? = _ from rfl), ?_⟩
              try with_reducible refine stI ?_
              try simp (maxSteps:=1000000)(dsimp:=false)(disch:=omega) only [go_sem, Φa, hP, h11_1, h11_3, hops]
              refine hK16 _ _ ?_
              try clear hK16 K16
              refine SX.block ?_
              refine SX.seq_k fun K17 hK17 => ?_
              refine SX.region_d [some 48, some 47] rfl (fun ops hops => ?_)
              unfold Dsts at hops
              simp (maxSteps:=1000000)(dsimp:=false)(disch:=omega) only [go_sem, Φa, hP, h11_1, h11_3, hops]
              repeat' ((first | refine And.intro (by omega) ?_ | fail); try (with_reducible refine stI ?_); try simp (maxSteps:=1000000)(dsimp:=false)(disch:=omega) only [go_sem, Φa, hP, h11_1, h11_3, hops])
              refine hK17 _ _ ?_
              try clear hK17 K17
              refine SX.cond_k fun X18 Y18 hX18 hY18 => ?_
              simp (maxSteps:=1000000)(dsimp:=false)(disch:=omega) only [go_sem, Φa, hP, h11_1, h11_3, condVC]
              refine ⟨fun hc47 => hX18 ?_, fun hc47 => hY18 ?_⟩
              · clear hX18 hY18 X18 Y18
                refine SX.region_d [some 49, some 50, some 3] rfl (fun ops hops => ?_)
                unfold Dsts at hops
                simp (maxSteps:=1000000)(dsimp:=false)(disch:=omega) only [go_sem, Φa, hP, h11_1, h11_3, hops]
                refine And.intro (by have := p7_size x; omega) ?_
                try with_reducible refine stI ?_
                try simp (maxSteps:=1000000)(dsimp:=false)(disch:=omega) only [go_sem, Φa, hP, h11_1, h11_3, hops]
                refine hK15 () _ (some (b0, .cells x.cells.toArray 46 (0, 0)) :: L) _ (by first | exact Less.refl _ | exact Less.drop _ _) ?_
                try dsimp only
                refine ⟨?_, ?_, ?_⟩
                · simp (maxSteps:=1000000)(dsimp:=false)(disch:=omega) only [go_sem, Φa, hP, h11_1, h11_3]
                  (unfold p8; simp only [*]; first | done | rfl | simp)
                · rfl
                · trivial
              · clear hX18 hY18 X18 Y18
                refine SX.seq_k fun K19 hK19 => ?_
                refine SX.region_d [some 52, some 51] rfl (fun ops hops => ?_)
                unfold Dsts at hops
                simp (maxSteps:=1000000)(dsimp:=false)(disch:=omega) only [go_sem, Φa, hP, h11_1, h11_3, hops]
                repeat' ((first | refine And.intro (by omega) ?_ | fail); try (with_reducible refine stI ?_); try simp (maxSteps:=1000000)(dsimp:=false)(disch:=omega) only [go_sem, Φa, hP, h11_1, h11_3, hops])
                refine hK19 _ _ ?_
                try clear hK19 K19
                refine SX.cond_k fun X20 Y20 hX20 hY20 => ?_
                simp (maxSteps:=1000000)(dsimp:=false)(disch:=omega) only [go_sem, Φa, hP, h11_1, h11_3, condVC]
                refine ⟨fun hc51 => hX20 ?_, fun hc51 => hY20 ?_⟩
                · clear hX20 hY20 X20 Y20
                  refine SX.region_d [some 53, some 54, some 3] rfl (fun ops hops => ?_)
                  unfold Dsts at hops
                  simp (maxSteps:=1000000)(dsimp:=false)(disch:=omega) only [go_sem, Φa, hP, h11_1, h11_3, hops]
                  refine And.intro (by have := p7_size x; omega) ?_
                  try with_reducible refine stI ?_
                  try simp (maxSteps:=1000000)(dsimp:=false)(disch:=omega) only [go_sem, Φa, hP, h11_1, h11_3, hops]
                  refine hK15 () _ (some (b0, .cells x.cells.toArray 46 (0, 0)) :: L) _ (by first | exact Less.refl _ | exact Less.drop _ _) ?_
                  try dsimp only
                  refine ⟨?_, ?_, ?_⟩
                  · simp (maxSteps:=1000000)(dsimp:=false)(disch:=omega) only [go_sem, Φa, hP, h11_1, h11_3]
                    (unfold p8; simp only [*]; first | done | rfl | simp)
                  · rfl
                  · trivial
                · clear hX20 hY20 X20 Y20
                  refine SX.seq_k fun K21 hK21 => ?_
                  refine SX.region_d [some 56, some 55] rfl (fun ops hops => ?_)
                  unfold Dsts at hops
                  simp (maxSteps:=1000000)(dsimp:=false)(disch:=omega) only [go_sem, Φa, hP, h11_1, h11_3, hops]
                  repeat' ((first | refine And.intro (by omega) ?_ | fail); try (with_reducible refine stI ?_); try simp (maxSteps:=1000000)(dsimp:=false)(disch:=omega) only [go_sem, Φa, hP, h11_1, h11_3, hops])
                  refine hK21 _ _ ?_
                  try clear hK21 K21
                  refine SX.cond_k fun X22 Y22 hX22 hY22 => ?_
                  simp (maxSteps:=1000000)(dsimp:=false)(disch:=omega) only [go_sem, Φa, hP, h11_1, h11_3, condVC]
                  refine ⟨fun hc55 => hX22 ?_, fun hc55 => hY22 ?_⟩
                  · clear hX22 hY22 X22 Y22
                    refine SX.region_d [some 57, some 58, some 3] rfl (fun ops hops => ?_)
                    unfold Dsts at hops
                    simp (maxSteps:=1000000)(dsimp:=false)(disch:=omega) only [go_sem, Φa, hP, h11_1, h11_3, hops]
                    refine And.intro (by have := p7_size x; omega) ?_
                    try with_reducible refine stI ?_
                    try simp (maxSteps:=1000000)(dsimp:=false)(disch:=omega) only [go_sem, Φa, hP, h11_1, h11_3, hops]
                    refine hK15 () _ (some (b0, .cells x.cells.toArray 46 (0, 0)) :: L) _ (by first | exact Less.refl _ | exact Less.drop _ _) ?_
                    try dsimp only
                    refine ⟨?_, ?_, ?_⟩
                    · simp (maxSteps:=1000000)(dsimp:=false)(disch:=omega) only [go_sem, Φa, hP, h11_1, h11_3]
                      (unfold p8; simp only [*]; first | done | rfl | simp)
                    · rfl
                    · trivial
                  · clear hX22 hY22 X22 Y22
                    refine SX.skip ?_
                    try simp only [andThen_normal, andThen_ret, andThen_exit, inBlk_normal, inBlk_ret, inBlk_exit, Nat.reduceEqDiff, if_true, if_false, ↓reduceIte]
                    refine hK15 () _ (some (b0, .cells x.cells.toArray 46 (0, 0)) :: L) _ (by first | exact Less.refl _ | exact Less.drop _ _) ?_
                    try dsimp only
                    refine ⟨?_, ?_, ?_⟩
                    · simp (maxSteps:=1000000)(dsimp:=false)(disch:=omega) only [go_sem, Φa, hP, h11_1, h11_3]
                      (unfold p8; simp only [*]; first | done | rfl | simp)
                    · rfl
                    · trivial
            · intro ss T12 L12 hI
              obtain ⟨h12_3, hL12, hinv⟩ := hI
              replace hL12 := hL12.symm
              subst hL12
              clear h11_1 h11_3 T11
              refine SX.seq_k fun K23 hK23 => ?_
              refine SX.region_d [some 59, some 2] rfl (fun ops hops => ?_)
              unfold Dsts at hops
              simp (maxSteps:=1000000)(dsimp:=false)(disch:=omega) only [go_sem, Φa, hP, h12_3, hops]
              refine hK23 _ _ ?_
              try clear hK23 K23
              refine SX.ret ?_
              simp only [andThen_normal, andThen_ret, andThen_exit, inBlk_normal, inBlk_ret, inBlk_exit, Nat.reduceEqDiff, if_true, if_false, ↓reduceIte, retQ_ret]
              try simp only [res0, res1, res2, res3, stK_e, go_sem, Φa, hP, h12_3]
              exact ⟨_, _, Less.drop _ _, rfl, rfl, rfl⟩

end Go.Proofs.YtcenlgofldnfcaaDoor
set_option linter.unusedVariables false
set_option linter.unusedSimpArgs false
namespace Go.Proofs.YtcenlgofldnfcaaDoor
open Go.RowKit Go.SX Go.Proofs
/-! The document's line is the program's. -/
theorem ba_ext {a b : ByteArray} (h : a.data.toList = b.data.toList) : a = b := by
  cases a; cases b
  simp only [ByteArray.mk.injEq]
  exact Array.toList_inj.1 h
theorem ba_app (a b : ByteArray) : (a ++ b).data.toList = a.data.toList ++ b.data.toList := by simp
def tlW (w : ByteArray) : List UInt8 := if w = ⟨#[]⟩ then [] else 32 :: w.data.toList
theorem jt (ws : List ByteArray) : Lib.joinTail [32] ((ws.filter (fun s => !decide (s = ⟨#[]⟩))).map (·.data.toList)) = (ws.map tlW).flatten := by
  induction ws with
  | nil => rfl
  | cons w ws ih =>
    by_cases h : w = ⟨#[]⟩
    · rw [List.filter_cons_of_neg (by simp [h]), ih, List.map_cons, List.flatten_cons]
      unfold tlW
      rw [if_pos h, List.nil_append]
    · rw [List.filter_cons_of_pos (by simp [h]), List.map_cons, List.map_cons, List.flatten_cons, ← ih]
      unfold tlW Lib.joinTail
      rw [if_neg h, List.map_cons, List.flatten_cons]
      simp
theorem ne_of_size {s : ByteArray} (h : 0 < s.size) : ¬ s = ⟨#[]⟩ := fun e => by rw [e] at h; exact absurd h (by decide)
theorem accW_8 (x : Rc) : accW x 8 = wordAt x 0 :: wordAt x 1 :: wordAt x 2 :: ([wordAt x 3, wordAt x 4, wordAt x 5, wordAt x 6, wordAt x 7].filter (fun s => !decide (s = ⟨#[]⟩))) := by
  have h0 : ¬ wordAt x 0 = ⟨#[]⟩ := ne_of_size (by show 0 < (_ ++ _ : ByteArray).size; rw [bapp_size, hexS_size]; omega)
  have h1 : ¬ wordAt x 1 = ⟨#[]⟩ := ne_of_size (by show 0 < (hexS _ _).size; rw [hexS_size]; omega)
  have h2 : ¬ wordAt x 2 = ⟨#[]⟩ := ne_of_size (by show 0 < (hexS _ _).size; rw [hexS_size]; omega)
  show (([0, 1, 2, 3, 4, 5, 6, 7] : List Nat).map (wordAt x)).filter _ = _
  simp only [List.map_cons, List.map_nil]
  rw [List.filter_cons_of_pos (by simp [h0]), List.filter_cons_of_pos (by simp [h1]), List.filter_cons_of_pos (by simp [h2])]
theorem lineS_list (x : Rc) : (lineS x).data.toList = (wordAt x 0).data.toList ++ (32 :: (wordAt x 1).data.toList ++ (32 :: (wordAt x 2).data.toList ++ (tlW (wordAt x 3) ++ (tlW (wordAt x 4) ++ (tlW (wordAt x 5) ++ (tlW (wordAt x 6) ++ tlW (wordAt x 7))))))) := by
  show Lib.join ((accW x 8).map (·.data.toList)) [32] = _
  rw [accW_8, List.map_cons, List.map_cons, List.map_cons, Lib.join_cons]
  have h := jt [wordAt x 3, wordAt x 4, wordAt x 5, wordAt x 6, wordAt x 7]
  unfold Lib.joinTail at h ⊢
  rw [List.map_cons, List.map_cons, List.flatten_cons, List.flatten_cons, h]
  simp
theorem hex1 {c : Int} (h : 0 ≤ c ∧ c ≤ 7) : hexS c.toNat 1 = txt [48 + c] := by
  unfold hexS
  show txt ([] ++ [dg c.toNat]) = _
  rw [dg_low c.toNat (by omega), List.nil_append, show ((c.toNat : Nat) : Int) = c by omega]
theorem whenL (b : Bool) (s : ByteArray) (h : ¬ s = ⟨#[]⟩) : tlW (whenS b s) = if b = true then 32 :: s.data.toList else [] := by
  cases b
  · rfl
  · show tlW s = _
    unfold tlW
    rw [if_neg h]; rfl
theorem lineS_eq {x : Rc} (ho : OkR x) (hm : mayB x = true) : lineS x = p8 x := by
  have hcd := ho.code
  have hpo := ho.port
  have hmd := ho.md
  simp only [mayB, Bool.and_eq_true, decide_eq_true_eq] at hm
  obtain ⟨⟨⟨hm1, hm2⟩, hm3⟩, hm4⟩ := hm
  refine ba_ext ?_
  rw [lineS_list]
  have e3 : (p3 x).data.toList = (wordAt x 0).data.toList ++ (32 :: (wordAt x 1).data.toList ++ 32 :: (wordAt x 2).data.toList) := by
    show _ = ((⟨#[115]⟩ : ByteArray) ++ hexS x.code.toNat 1).data.toList ++ (32 :: (hexS x.ad.toNat 4).data.toList ++ 32 :: (hexS x.data.toNat 2).data.toList)
    rw [hex1 (by omega)]
    unfold p3
    simp only [ba_app]
    simp
  have e4 : (p4 x).data.toList = (p3 x).data.toList ++ tlW (wordAt x 3) := by
    show _ = _ ++ tlW (whenS x.rd ⟨#[114]⟩)
    rw [whenL _ _ (ne_of_size (by decide))]
    unfold p4
    split
    · rw [ba_app]
    · rw [List.append_nil]
  have e5 : (p5 x).data.toList = (p4 x).data.toList ++ tlW (wordAt x 4) := by
    show _ = _ ++ tlW (whenS x.wr ⟨#[119]⟩)
    rw [whenL _ _ (ne_of_size (by decide))]
    unfold p5
    split
    · rw [ba_app]
    · rw [List.append_nil]
  have e6 : (p6 x).data.toList = (p5 x).data.toList ++ tlW (wordAt x 5) := by
    show _ = _ ++ tlW (whenS (!decide (x.port = 0)) (⟨#[110]⟩ ++ hexS x.port.toNat 1))
    rw [whenL _ _ (ne_of_size (by rw [bapp_size]; have : (⟨#[110]⟩ : ByteArray).size = 1 := rfl; omega)), hex1 (by omega)]
    unfold p6
    by_cases h : x.port = 0
    · rw [if_pos h, if_neg (by simp [h]), List.append_nil]
    · rw [if_neg h, if_pos (by simp [h])]
      simp only [ba_app]
      simp
  have e7 : (p7 x).data.toList = (p6 x).data.toList ++ tlW (wordAt x 6) := by
    show _ = _ ++ tlW (whenS x.q ⟨#[113]⟩)
    rw [whenL _ _ (ne_of_size (by decide))]
    unfold p7
    split
    · rw [ba_app]
    · rw [List.append_nil]
  have e8 : (p8 x).data.toList = (p7 x).data.toList ++ tlW (wordAt x 7) := by
    show _ = _ ++ tlW (mdL.getD (x.md.toNat % 4) ⟨#[]⟩)
    unfold p8
    rcases (by omega : x.md = 0 ∨ x.md = 1 ∨ x.md = 2 ∨ x.md = 3) with h | h | h | h <;> rw [h]
    · rw [if_neg (by decide), if_neg (by decide), if_neg (by decide)]
      exact (List.append_nil _).symm
    · rw [if_pos rfl, ba_app]; rfl
    · rw [if_neg (by decide), if_pos rfl, ba_app]; rfl
    · rw [if_neg (by decide), if_neg (by decide), if_pos rfl, ba_app]; rfl
  rw [e8, e7, e6, e5, e4, e3]
  simp
theorem refLine_spec {Γ : Ctx} (hP : Γ.P = Tryd.prog) {L : Hp} {x : Rc} (ho : OkR x) (hm : mayB x = true) : SCall Γ 33 #[.agg x.cells.toArray] L (fun v L' => v = .string (lineS x) ∧ L' = L) := by
  rw [lineS_eq ho hm]
  exact refLine_p8 hP ho hm
end Go.Proofs.YtcenlgofldnfcaaDoor
set_option linter.unusedVariables false
set_option linter.unusedSimpArgs false
namespace Go.Proofs.YtcenlgofldnfcaaDoor
open Go.RowKit Go.SX Go.Proofs
open Go.SX renaming ia_someH → Φa

theorem linesI_take2 {l : List Rc} {k : Nat} (h : k < l.length) : linesI (l.take (k + 1)) = linesI (l.take k) ++ nums8 (lineS (l.getD k default)) ++ [10] := by
  rw [List.take_add_one, getD_get (d := default) h]
  unfold linesI
  rw [List.flatMap_append]
  simp
set_option maxHeartbeats 1000000 in
set_option maxRecDepth 100000 in
theorem refPrint_spec {Γ : Ctx} (hP : Γ.P = Tryd.prog) {L : Hp} {v : Value} {l : List Rc} (hl : SlC (Cell Γ L) v l) (ho : ∀ r ∈ l, OkR r) :
    SCall Γ 13 #[v] L (fun v L' => v = .tuple #[.string (printP l).1, .int .i64 (printP l).2] ∧ L' = L) := by
  obtain ⟨A, c, rfl, hc⟩ := Sl.shape hl
  obtain ⟨a1, e1, _, hA⟩ := Sl.at1 hl
  refine SCall.enter (n := 33) (res2 2 3) (hP ▸ Tryd.func13) rfl rfl (by simp) (res2_ok rfl) ?_
  refine SX.seq_k fun K1 hK1 => ?_
  refine SX.region_d [some 2, some 3] rfl (fun ops hops => ?_)
  unfold Dsts at hops
  simp (maxSteps:=1000000)(dsimp:=false)(disch:=omega) only [go_sem, Φa, hP, hops]
  refine hK1 _ _ ?_
  try clear hK1 K1
  refine SX.seq_k fun K2 hK2 => ?_
  refine SX.region_d [some 7, some 8, some 4] rfl (fun ops hops => ?_)
  unfold Dsts at hops
  simp (maxSteps:=1000000)(dsimp:=false)(disch:=omega) only [go_sem, Φa, hP, hops]
  refine SCall.mono (refCheck_spec hP hl) ?_
  rintro v_ L_ ⟨hv_, hL_⟩
  rw [hv_, hL_]
  clear hv_ hL_ v_ L_
  try with_reducible refine stI ?_
  try simp (maxSteps:=1000000)(dsimp:=false)(disch:=omega) only [go_sem, Φa, hP, hops]
  refine hK2 _ _ ?_
  try clear hK2 K2
  refine SX.seq_k fun K3 hK3 => ?_
  refine SX.seq_k fun K4 hK4 => ?_
  refine SX.region_d [some 9, some 10] rfl (fun ops hops => ?_)
  unfold Dsts at hops
  simp (maxSteps:=1000000)(dsimp:=false)(disch:=omega) only [go_sem, Φa, hP, hops]
  repeat' ((first | refine And.intro (by omega) ?_ | fail); try (with_reducible refine stI ?_); try simp (maxSteps:=1000000)(dsimp:=false)(disch:=omega) only [go_sem, Φa, hP, hops])
  refine hK4 _ _ ?_
  try clear hK4 K4
  refine SX.cond_k fun X5 Y5 hX5 hY5 => ?_
  simp (maxSteps:=1000000)(dsimp:=false)(disch:=omega) only [go_sem, Φa, hP, condVC]
  refine ⟨fun hc10 => hX5 ?_, fun hc10 => hY5 ?_⟩
  · clear hX5 hY5 X5 Y5
    refine SX.seq_k fun K6 hK6 => ?_
    refine SX.region_d [some 11, some 2, some 3] rfl (fun ops hops => ?_)
    unfold Dsts at hops
    simp (maxSteps:=1000000)(dsimp:=false)(disch:=omega) only [go_sem, Φa, hP, hops]
    refine hK6 _ _ ?_
    try clear hK6 K6
    refine SX.ret ?_
    simp only [andThen_normal, andThen_ret, andThen_exit, inBlk_normal, inBlk_ret, inBlk_exit, Nat.reduceEqDiff, if_true, if_false, ↓reduceIte, retQ_ret]
    try simp only [res0, res1, res2, res3, stK_e, go_sem, Φa, hP]
    refine ⟨_, _, Less.refl _, rfl, ?_, rfl⟩
    unfold printP
    rw [if_neg (by simpa using hc10)]
  · clear hX5 hY5 X5 Y5
    refine SX.skip ?_
    try simp only [andThen_normal, andThen_ret, andThen_exit, inBlk_normal, inBlk_ret, inBlk_exit, Nat.reduceEqDiff, if_true, if_false, ↓reduceIte]
    refine hK3 _ _ ?_
    try clear hK3 K3
    refine SX.seq_k fun K7 hK7 => ?_
    have hc0 : chkL l = 0 := by simpa using hc10
    obtain ⟨hll, hlm⟩ := chkL_zero hc0
    refine SX.less (Less.none _) ?_
    refine SX.region_d [some 5] rfl (fun ops hops => ?_)
    unfold Dsts at hops
    simp (maxSteps:=1000000)(dsimp:=false)(disch:=omega) only [go_sem, Φa, hP, hops]
    refine hK7 _ _ ?_
    try clear hK7 K7
    refine SX.seq_k fun K8 hK8 => ?_
    refine SX.seq_k fun K9 hK9 => ?_
    refine SX.region_d [some 6] rfl (fun ops hops => ?_)
    unfold Dsts at hops
    simp (maxSteps:=1000000)(dsimp:=false)(disch:=omega) only [go_sem, Φa, hP, hops]
    refine hK9 _ _ ?_
    try clear hK9 K9
    refine SX.live [0, 5, 6] (fun T1 hT1 => ?_)
    simp only [forall_mem_cons', forall_mem_nil', go_sem, Φa, hP] at hT1
    obtain ⟨h1_0, h1_5, h1_6⟩ := hT1
    refine SX.block ?_
    refine SX.live [0, 5, 6] (fun T2 hT2 => ?_)
    simp only [forall_mem_cons', forall_mem_nil', go_sem, Φa, hP, h1_0, h1_5, h1_6] at hT2
    obtain ⟨h2_0, h2_5, h2_6⟩ := hT2
    clear h1_0 h1_5 h1_6 T1
    refine SX.loop_k (fun (ss : (Nat) × (Value) × (Slot)) T L' => (fun (k : Nat) (vo : Value) (so : Slot) => T 5 = vo ∧ T 6 = .int .i64 (k : Int) ∧ T 0 = T2 0 ∧ L' = so :: L ∧ (k ≤ l.length ∧ RowI .u8 5 vo (linesI (l.take k)) so ∧ (linesI (l.take k)).length ≤ 65536)) (ss.1) (ss.2.1) (ss.2.2)) (fun (ss : (Nat) × (Value) × (Slot)) => (fun (k : Nat) (vo : Value) (so : Slot) => l.length - k) (ss.1) (ss.2.1) (ss.2.2)) (0, .slice none 0 0, none) ?_ ?_
    · try dsimp only
      refine ⟨?_, ?_, ?_, ?_, ?_⟩
      · first | exact h2_5 | (rw [h2_5]; rfl) | (rw [h2_5]; simp; done)
      · first | exact h2_6 | (rw [h2_6]; rfl) | (rw [h2_6]; simp; done)
      · rfl
      · rfl
      · exact ⟨Nat.zero_le _, Row.nil _ _, Nat.zero_le _⟩
    · intro ss T3 L3 hI K10 hK10
      obtain ⟨k, vo, so⟩ := ss
      try dsimp only at hI hK10
      simp only [h2_0] at hI hK10
      obtain ⟨h3_5, h3_6, h3_0, hL3, ⟨hk, hrow, hlen⟩⟩ := hI
      replace hL3 := hL3.symm
      subst hL3
      clear h2_0 h2_5 h2_6 T2
      refine SX.seq_k fun K11 hK11 => ?_
      refine SX.seq_k fun K12 hK12 => ?_
      refine SX.region_d [some 12, some 13, some 14, some 15] rfl (fun ops hops => ?_)
      unfold Dsts at hops
      simp (maxSteps:=1000000)(dsimp:=false)(disch:=omega) only [go_sem, Φa, hP, h3_5, h3_6, h3_0, hops]
      repeat' ((first | refine And.intro (by omega) ?_ | fail); try (with_reducible refine stI ?_); try simp (maxSteps:=1000000)(dsimp:=false)(disch:=omega) only [go_sem, Φa, hP, h3_5, h3_6, h3_0, hops])
      refine hK12 _ _ ?_
      try clear hK12 K12
      refine SX.cond_k fun X13 Y13 hX13 hY13 => ?_
      simp (maxSteps:=1000000)(dsimp:=false)(disch:=omega) only [go_sem, Φa, hP, h3_5, h3_6, h3_0, condVC]
      refine ⟨fun hc15 => hX13 ?_, fun hc15 => hY13 ?_⟩
      · clear hX13 hY13 X13 Y13
        refine SX.skip ?_
        try simp only [andThen_normal, andThen_ret, andThen_exit, inBlk_normal, inBlk_ret, inBlk_exit, Nat.reduceEqDiff, if_true, if_false, ↓reduceIte]
        refine hK11 _ _ ?_
        try clear hK11 K11
        refine SX.seq_k fun K14 hK14 => ?_
        refine SX.block ?_
        refine SX.seq_k fun K15 hK15 => ?_
        have hkl : k < l.length := by omega
        have hck := hA k _ (getD_get (d := default) hkl)
        have hok := ho _ (getD_mem hkl)
        have hmk := hlm k hkl
        obtain ⟨oA, oC, rfl, _, _⟩ := Row.form hrow
        have hsz := lineS_size (l.getD k default)
        have hlt := linesI_take2 hkl
        have hrl := refLine_spec (Γ := Γ) (L := so :: L) hP hok hmk
        generalize hls : lineS (l.getD k default) = ls at hsz hlt hrl
        refine SX.region_d [some 18, some 19, some 20, some 21, some 22, some 23, some 24, some 5] rfl (fun ops hops => ?_)
        unfold Dsts at hops
        simp (maxSteps:=1000000)(dsimp:=false)(disch:=omega) only [go_sem, Φa, hP, h3_5, h3_6, h3_0, hops, ia_at e1]
        refine ⟨_, Cell.cons _ (hck 0 _ rfl), _, Cell.cons _ (hck 1 _ rfl), _, Cell.cons _ (hck 2 _ rfl), _, Cell.cons _ (hck 3 _ rfl), _, Cell.cons _ (hck 4 _ rfl), _, Cell.cons _ (hck 5 _ rfl), _, Cell.cons _ (hck 6 _ rfl), _, Cell.cons _ (hck 7 _ rfl), ?_⟩
        try with_reducible refine stI ?_
        try simp (maxSteps:=1000000)(dsimp:=false)(disch:=omega) only [go_sem, Φa, hP, h3_5, h3_6, h3_0, hops, ia_at e1]
        refine SCall.mono (hrl) ?_
        rintro v_ L_ ⟨hv_, hL_⟩
        rw [hv_, hL_]
        clear hv_ hL_ v_ L_
        try with_reducible refine stI ?_
        try simp (maxSteps:=1000000)(dsimp:=false)(disch:=omega) only [go_sem, Φa, hP, h3_5, h3_6, h3_0, hops, ia_at e1]
        refine YAppend.str (i := 0) (hP ▸ T.elS_30) (hP ▸ T.zr_5) rfl (hP ▸ Tryd.underlying9) rfl hrow (by omega) (by decide) ?_
        intro v2 s2 hrow2
        obtain ⟨nA, nC, rfl, _, _⟩ := Row.form hrow2
        try with_reducible refine stI ?_
        try simp (maxSteps:=1000000)(dsimp:=false)(disch:=omega) only [go_sem, Φa, hP, h3_5, h3_6, h3_0, hops, ia_at e1]
        refine hK15 _ _ ?_
        try clear hK15 K15
        refine SX.live [0, 5, 6] (fun T4 hT4 => ?_)
        simp only [forall_mem_cons', forall_mem_nil', go_sem, Φa, hP, h3_5, h3_6, h3_0] at hT4
        obtain ⟨h4_0, h4_5, h4_6⟩ := hT4
        clear h3_5 h3_6 h3_0 T3
        refine SX.seq_k fun K16 hK16 => ?_
        refine SX.region_d [some 25, some 26, some 27, some 5] rfl (fun ops hops => ?_)
        unfold Dsts at hops
        simp (maxSteps:=1000000)(dsimp:=false)(disch:=omega) only [go_sem, Φa, hP, h4_0, h4_5, h4_6, hops]
        intro g26
        try with_reducible refine stI ?_
        try simp (maxSteps:=1000000)(dsimp:=false)(disch:=omega) only [go_sem, Φa, hP, h4_0, h4_5, h4_6, hops]
        refine YAppend.int1 (i := 0) (hP ▸ T.elS_30) (hP ▸ T.zr_5) rfl rfl hrow2 (by rw [List.length_append, nums8_length]; omega) (by decide) ?_
        intro v3 s3 hrow3
        obtain ⟨nB, nD, rfl, _, _⟩ := Row.form hrow3
        try with_reducible refine stI ?_
        try simp (maxSteps:=1000000)(dsimp:=false)(disch:=omega) only [go_sem, Φa, hP, h4_0, h4_5, h4_6, hops]
        refine hK16 _ _ ?_
        try clear hK16 K16
        refine SX.seq_k fun K17 hK17 => ?_
        refine SX.region_d [some 28, some 29, some 30] rfl (fun ops hops => ?_)
        unfold Dsts at hops
        simp (maxSteps:=1000000)(dsimp:=false)(disch:=omega) only [go_sem, Φa, hP, h4_0, h4_5, h4_6, hops]
        repeat' ((first | refine And.intro (by omega) ?_ | fail); try (with_reducible refine stI ?_); try simp (maxSteps:=1000000)(dsimp:=false)(disch:=omega) only [go_sem, Φa, hP, h4_0, h4_5, h4_6, hops])
        refine hK17 _ _ ?_
        try clear hK17 K17
        refine SX.cond_k fun X18 Y18 hX18 hY18 => ?_
        simp (maxSteps:=1000000)(dsimp:=false)(disch:=omega) only [go_sem, Φa, hP, h4_0, h4_5, h4_6, condVC]
        refine ⟨fun hc30 => hX18 ?_, fun hc30 => hY18 ?_⟩
        · clear hX18 hY18 X18 Y18
          refine SX.seq_k fun K19 hK19 => ?_
          refine SX.region_d [some 2, some 3] rfl (fun ops hops => ?_)
          unfold Dsts at hops
          simp (maxSteps:=1000000)(dsimp:=false)(disch:=omega) only [go_sem, Φa, hP, h4_0, h4_5, h4_6, hops]
          refine hK19 _ _ ?_
          try clear hK19 K19
          refine SX.ret ?_
          simp only [andThen_normal, andThen_ret, andThen_exit, inBlk_normal, inBlk_ret, inBlk_exit, Nat.reduceEqDiff, if_true, if_false, ↓reduceIte, retQ_ret]
          try simp only [res0, res1, res2, res3, stK_e, go_sem, Φa, hP, h4_0, h4_5, h4_6]
          refine ⟨_, L, Less.drops (Less.drop _ _), rfl, ?_, rfl⟩
          unfold printP
          rw [if_pos hc0, if_pos (by have := linesI_le l (k + 1); rw [hlt] at this; omega)]
        · clear hX18 hY18 X18 Y18
          refine SX.skip ?_
          try simp only [andThen_normal, andThen_ret, andThen_exit, inBlk_normal, inBlk_ret, inBlk_exit, Nat.reduceEqDiff, if_true, if_false, ↓reduceIte]
          refine hK14 _ _ ?_
          try clear hK14 K14
          refine SX.region_d [some 16, some 17, some 6] rfl (fun ops hops => ?_)
          unfold Dsts at hops
          simp (maxSteps:=1000000)(dsimp:=false)(disch:=omega) only [go_sem, Φa, hP, h4_0, h4_5, h4_6, hops]
          repeat' ((first | refine And.intro (by omega) ?_ | fail); try (with_reducible refine stI ?_); try simp (maxSteps:=1000000)(dsimp:=false)(disch:=omega) only [go_sem, Φa, hP, h4_0, h4_5, h4_6, hops])
          refine hK10 (k + 1, .slice nB (linesI (l.take k) ++ nums8 ls ++ [10]).length nD, s3) _ (s3 :: L) _ (by first | exact Less.refl _ | exact Less.drop _ _ | exact Less.drops (Less.drop _ _) | exact Less.drops (Less.drops (Less.drop _ _)) | exact Less.drops (Less.drops (Less.drops (Less.drop _ _))) | exact Less.drops (Less.drops (Less.drops (Less.drops (Less.drop _ _))))) ?_ ?_
          · try dsimp only
            refine ⟨?_, ?_, ?_, ?_, ?_⟩
            · simp (maxSteps:=1000000)(dsimp:=false)(disch:=omega) only [go_sem, Φa, hP, h4_0, h4_5, h4_6]
              first | done | rfl | skip
            · simp (maxSteps:=1000000)(dsimp:=false)(disch:=omega) only [go_sem, Φa, hP, h4_0, h4_5, h4_6]
              first | done | rfl | skip
            · simp (maxSteps:=1000000)(dsimp:=false)(disch:=omega) only [go_sem, Φa, hP, h4_0, h4_5, h4_6]
            · rfl
            · exact ⟨by omega, by rw [hlt]; exact hrow3, by rw [hlt]; omega⟩
          · (try dsimp only); omega
      · clear hX13 hY13 X13 Y13
        refine SX.exit ?_
        try simp only [andThen_normal, andThen_ret, andThen_exit, inBlk_normal, inBlk_ret, inBlk_exit, Nat.reduceEqDiff, if_true, if_false, ↓reduceIte]
        refine hK8 _ _ ?_
        try clear hK8 K8
        refine SX.seq_k fun K20 hK20 => ?_
        obtain rfl : k = l.length := by omega
        rw [List.take_length] at hrow hlen
        obtain ⟨oA, oC, rfl, _, _⟩ := Row.form hrow
        refine SX.region_d [some 31, some 32, some 2, some 3] rfl (fun ops hops => ?_)
        unfold Dsts at hops
        simp (maxSteps:=1000000)(dsimp:=false)(disch:=omega) only [go_sem, Φa, hP, h3_5, h3_6, h3_0, hops]
        refine conv_row (hP ▸ Tryd.underlying30) (hP ▸ Tryd.underlying9) (hP ▸ Tryd.underlying5) (RowI.sl (i := 0) hrow rfl) (linesI_byte l) ?_
        try with_reducible refine stI ?_
        try simp (maxSteps:=1000000)(dsimp:=false)(disch:=omega) only [go_sem, Φa, hP, h3_5, h3_6, h3_0, hops]
        refine hK20 _ _ ?_
        try clear hK20 K20
        refine SX.ret ?_
        simp only [andThen_normal, andThen_ret, andThen_exit, inBlk_normal, inBlk_ret, inBlk_exit, Nat.reduceEqDiff, if_true, if_false, ↓reduceIte, retQ_ret]
        try simp only [res0, res1, res2, res3, stK_e, go_sem, Φa, hP, h3_5, h3_6, h3_0]
        refine ⟨_, L, Less.drop _ _, rfl, ?_, rfl⟩
        unfold printP
        rw [if_pos hc0, if_neg (by omega)]
set_option maxHeartbeats 1000000 in
set_option maxRecDepth 100000 in
theorem TracePrints_spec {Γ : Ctx} (hP : Γ.P = Tryd.prog) {L : Hp} (hM : MD Γ) {v : Value} {l : List Rc} (hl : SlC (Cell Γ []) v l) (ho : ∀ r ∈ l, OkR r) :
    SCall Γ 4 #[v] L (fun v L' => v = .bool true ∧ L' = L) := by
  obtain ⟨A, c, rfl, hc⟩ := Sl.shape hl
  refine SCall.enter (n := 39) (res1 2) (hP ▸ Tryd.func4) rfl rfl (by simp) (res1_ok rfl) ?_
  refine SX.seq_k fun K1 hK1 => ?_
  refine SX.region_d [some 2] rfl (fun ops hops => ?_)
  unfold Dsts at hops
  simp (maxSteps:=1000000)(dsimp:=false)(disch:=omega) only [go_sem, Φa, hP, hops]
  refine hK1 _ _ ?_
  try clear hK1 K1
  refine SX.seq_k fun K2 hK2 => ?_
  refine SX.seq_k fun K3 hK3 => ?_
  refine SX.region_d [some 8, some 9, some 10] rfl (fun ops hops => ?_)
  unfold Dsts at hops
  simp (maxSteps:=1000000)(dsimp:=false)(disch:=omega) only [go_sem, Φa, hP, hops]
  repeat' ((first | refine And.intro (by omega) ?_ | fail); try (with_reducible refine stI ?_); try simp (maxSteps:=1000000)(dsimp:=false)(disch:=omega) only [go_sem, Φa, hP, hops])
  refine hK3 _ _ ?_
  try clear hK3 K3
  refine SX.cond_k fun X4 Y4 hX4 hY4 => ?_
  simp (maxSteps:=1000000)(dsimp:=false)(disch:=omega) only [go_sem, Φa, hP, condVC]
  refine ⟨fun hc10 => hX4 ?_, fun hc10 => hY4 ?_⟩
  · clear hX4 hY4 X4 Y4
    refine SX.seq_k fun K5 hK5 => ?_
    refine SX.region_d [some 2] rfl (fun ops hops => ?_)
    unfold Dsts at hops
    simp (maxSteps:=1000000)(dsimp:=false)(disch:=omega) only [go_sem, Φa, hP, hops]
    refine hK5 _ _ ?_
    try clear hK5 K5
    refine SX.ret ?_
    simp only [andThen_normal, andThen_ret, andThen_exit, inBlk_normal, inBlk_ret, inBlk_exit, Nat.reduceEqDiff, if_true, if_false, ↓reduceIte, retQ_ret]
    try simp only [res0, res1, res2, res3, stK_e, go_sem, Φa, hP]
    exact ⟨_, _, Less.refl _, rfl, rfl, rfl⟩
  · clear hX4 hY4 X4 Y4
    refine SX.skip ?_
    try simp only [andThen_normal, andThen_ret, andThen_exit, inBlk_normal, inBlk_ret, inBlk_exit, Nat.reduceEqDiff, if_true, if_false, ↓reduceIte]
    refine hK2 _ _ ?_
    try clear hK2 K2
    refine SX.seq_k fun K6 hK6 => ?_
    have hll : l.length ≤ 2147483647 := by omega
    refine SX.region_d [some 11, some 12, some 3] rfl (fun ops hops => ?_)
    unfold Dsts at hops
    simp (maxSteps:=1000000)(dsimp:=false)(disch:=omega) only [go_sem, Φa, hP, hops]
    refine SCall.mono (lent_spec hP hl hll) ?_
    rintro v_ L_ ⟨gx, rfl, rfl⟩
    try with_reducible refine stI ?_
    try simp (maxSteps:=1000000)(dsimp:=false)(disch:=omega) only [go_sem, Φa, hP, hops]
    refine hK6 _ _ ?_
    try clear hK6 K6
    refine SX.seq_k fun K7 hK7 => ?_
    refine SX.region_d [some 14, some 15, some 13, some 16, some 17, some 4, some 5] rfl (fun ops hops => ?_)
    unfold Dsts at hops
    simp (maxSteps:=1000000)(dsimp:=false)(disch:=omega) only [go_sem, Φa, hP, hops]
    refine SCall.mono (Print_spec hP (mark_sl (gx := gx) (List.mem_cons_self ..) hll) ho hM) ?_
    rintro v_ L_ ⟨hv_, hL_⟩
    rw [hv_, hL_]
    clear hv_ hL_ v_ L_
    try with_reducible refine stI ?_
    try simp (maxSteps:=1000000)(dsimp:=false)(disch:=omega) only [go_sem, Φa, hP, hops]
    refine hK7 _ _ ?_
    try clear hK7 K7
    refine SX.live [0, 3, 4, 5] (fun T1 hT1 => ?_)
    simp only [forall_mem_cons', forall_mem_nil', go_sem, Φa, hP] at hT1
    obtain ⟨h1_0, h1_3, h1_4, h1_5⟩ := hT1
    refine SX.seq_k fun K8 hK8 => ?_
    refine SX.region_d [some 19, some 20, some 18, some 21, some 22, some 6, some 7] rfl (fun ops hops => ?_)
    unfold Dsts at hops
    simp (maxSteps:=1000000)(dsimp:=false)(disch:=omega) only [go_sem, Φa, hP, h1_0, h1_3, h1_4, h1_5, hops]
    refine SCall.mono (refPrint_spec hP (SlC.mono (fun a v h => Cell.any h) hl) ho) ?_
    rintro v_ L_ ⟨hv_, hL_⟩
    rw [hv_, hL_]
    clear hv_ hL_ v_ L_
    try with_reducible refine stI ?_
    try simp (maxSteps:=1000000)(dsimp:=false)(disch:=omega) only [go_sem, Φa, hP, h1_0, h1_3, h1_4, h1_5, hops]
    refine hK8 _ _ ?_
    try clear hK8 K8
    refine SX.seq_k fun K9 hK9 => ?_
    refine SX.region_d [some 23, some 24, some 25, some 26, some 27, some 28, some 29, some 30, some 31, some 32, some 33, some 34, some 35, some 36, some 37, some 38, some 2] rfl (fun ops hops => ?_)
    unfold Dsts at hops
    simp (maxSteps:=1000000)(dsimp:=false)(disch:=omega) only [go_sem, Φa, hP, h1_0, h1_3, h1_4, h1_5, hops]
    refine SCall.mono (back_spec hP hl ho hll) ?_
    rintro v_ L_ ⟨rfl, s', rfl⟩
    try with_reducible refine stI ?_
    try simp (maxSteps:=1000000)(dsimp:=false)(disch:=omega) only [go_sem, Φa, hP, h1_0, h1_3, h1_4, h1_5, hops]
    (refine SCall.mono (awake_spec hP hM) ?_; rintro v_ L_ ⟨hv_, hL_⟩; rw [hv_, hL_]; clear hv_ hL_ v_ L_)
    try with_reducible refine stI ?_
    try simp (maxSteps:=1000000)(dsimp:=false)(disch:=omega) only [go_sem, Φa, hP, h1_0, h1_3, h1_4, h1_5, hops]
    refine hK9 _ _ ?_
    try clear hK9 K9
    refine SX.ret ?_
    simp only [andThen_normal, andThen_ret, andThen_exit, inBlk_normal, inBlk_ret, inBlk_exit, Nat.reduceEqDiff, if_true, if_false, ↓reduceIte, retQ_ret]
    try simp only [res0, res1, res2, res3, stK_e, go_sem, Φa, hP, h1_0, h1_3, h1_4, h1_5]
    exact ⟨_, _, Less.drop _ _, rfl, rfl, rfl⟩

end Go.Proofs.YtcenlgofldnfcaaDoor
