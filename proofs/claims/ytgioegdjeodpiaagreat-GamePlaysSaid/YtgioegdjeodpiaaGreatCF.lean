/- A part of a proof: contracts and plain facts that it stands on. -/
import Derived.Test.YtgioegdjeodpiaaGreatCE
import Derived.Laws.BitsAllLaws
set_option linter.unusedVariables false
set_option linter.unusedSimpArgs false
namespace Go.Proofs.YtgioegdjeodpiaaGreat
open Go.RowKit Go.SX
open Go.SX renaming ia_someH → Φa

theorem set_PCG {g : GM} {sv pv mv : Value} (x : Int) : (g.cells sv pv mv).set 17 (.int .u16 x) = GM.cells { g with PC := x } sv pv mv := rfl
theorem set_IG {g : GM} {sv pv mv : Value} (x : Int) : (g.cells sv pv mv).set 16 (.int .u16 x) = GM.cells { g with I := x } sv pv mv := rfl
theorem set_stG {g : GM} {sv pv mv v : Value} (l : List Int) : (g.cells sv pv mv).set 18 v = GM.cells { g with st := l } v pv mv := rfl
theorem and_one {a : Int} (h : 0 ≤ a ∧ a ≤ 65535) : bits .and .u16 a 1 = 0 ∨ bits .and .u16 a 1 = 1 := by
 rw [u16_and a 1 h.1 (by omega) (by decide) (by decide),show (1 : Int).toNat = 1 from rfl,Nat.and_one_is_mod]
 omega
theorem down_not {g : GM} {o : Ord} {d : Feed} (hk : 0 ≤ d.keys ∧ d.keys ≤ 65535) : decide (bits .and .u16 (d.keys.fdiv (2 ^ min (vG g o.x % 16).toNat 16)) 1 = 0) = !downG g o d := by
 have hp : (0 : Int) < 2 ^ min (vG g o.x % 16).toNat 16 := by exact_mod_cast Nat.two_pow_pos _
 have h0 : d.keys.fdiv (2 ^ min (vG g o.x % 16).toNat 16) = d.keys / (2 ^ min (vG g o.x % 16).toNat 16) := Int.fdiv_eq_ediv_of_nonneg _ (Int.le_of_lt hp)
 have h1 : 0 ≤ d.keys / (2 ^ min (vG g o.x % 16).toNat 16) := Int.ediv_nonneg hk.1 (Int.le_of_lt hp)
 have h2 : d.keys / (2 ^ min (vG g o.x % 16).toNat 16) ≤ d.keys := Int.ediv_le_self _ hk.1
 show _ = !decide (bits .and .u16 (d.keys.fdiv (2 ^ min (vG g o.x % 16).toNat 16)) 1 = 1)
 rcases and_one (a := d.keys.fdiv (2 ^ min (vG g o.x % 16).toNat 16)) (by rw [h0]; omega) with h | h <;> rw [h] <;> rfl
theorem lessFive {a b c d e x y z : Slot} {R : Hp} : Less (a :: b :: c :: d :: e :: x :: y :: z :: R) (x :: y :: z :: a :: b :: c :: d :: e :: R) := Less.perm ((List.perm_append_comm (l₁ := [a,b,c,d,e]) (l₂ := [x,y,z])).append_right R)
theorem lessFive' {a b c d e x y z : Slot} {R : Hp} : Less (x :: y :: z :: a :: b :: c :: d :: e :: R) (x :: y :: z :: R) := Less.sublist (.cons_cons _ (.cons_cons _ (.cons_cons _ (.cons _ (.cons _ (.cons _ (.cons _ (.cons _ (List.Sublist.refl _)))))))))
theorem sums_fields {g : GM} {o : Ord} {f : Fnt} {d : Feed} (h : 11 ≤ o.op ∧ o.op ≤ 15) : (doG g o f d).1 = 1 ∧ (doG g o f d).2.st = g.st ∧ (doG g o f d).2.pg = g.pg ∧ (doG g o f d).2.mm = g.mm := by
 have h : o.op = 11 ∨ o.op = 12 ∨ o.op = 13 ∨ o.op = 14 ∨ o.op = 15 := by omega
 unfold doG
 rcases h with h | h | h | h | h <;> rw [h] <;> exact ⟨rfl,rfl,rfl,rfl⟩
theorem skip_fields {g : GM} {b : Bool} : (skipG g b).2.st = g.st ∧ (skipG g b).2.pg = g.pg ∧ (skipG g b).2.mm = g.mm := by
 unfold skipG
 dsimp only
 split <;> exact ⟨rfl,rfl,rfl⟩
set_option maxHeartbeats 1000000 in
set_option maxRecDepth 100000 in
theorem refdo_spec {Γ : Ctx} (hP : Γ.P = Tryz.prog) {L : Hp} {g : GM} {sv pv mv fv : Value} {o : Ord} {f : Fnt} {d : Feed} {s1 s2 s3 : Slot} (hr : Rows g sv pv mv s1 s2 s3) (hg : OkG g) (hfo : OkF f) (ho : OkO o) (hd : OkD d) (hf : SlI .u8 (Cell Γ L) fv f.bs) (hml : g.mm.length = 3232) (hpl : g.pg.length = 256) (hst : g.st.length ≤ 12) (hfl : f.bs.length ≤ 65536) (hn : o.n < 16) (hx : o.x < 16) (hy : o.y < 16) (hop : 2 ≤ o.op ∧ o.op ≤ 31) :
  SCall Γ 29 #[(.agg (g.cells sv pv mv).toArray),(.agg o.cells.toArray),(.agg (f.cells fv).toArray),(.agg d.cells.toArray)] (s1 :: s2 :: s3 :: L) (doneR (doG g o f d) L) := by
 have hbx : 0 ≤ vG g o.x ∧ vG g o.x ≤ 255 := byte_at hg.Vb o.x
 have hby : 0 ≤ vG g o.y ∧ vG g o.y ≤ 255 := byte_at hg.Vb o.y
 have hb0 : 0 ≤ vG g 0 ∧ vG g 0 ≤ 255 := byte_at hg.Vb 0
 have hIb := hg.I
 have hPCb := hg.PC
 have hoa := ho.a
 have hob := ho.b
 have hkb := hd.keys
 have hrb := hd.rnd
 obtain ⟨A1,c1,hv1,_,_⟩ := Row.form hr.st
 obtain ⟨A2,c2,hv2,_,_⟩ := Row.form hr.pg
 obtain ⟨A3,c3,hv3,_,_⟩ := Row.form hr.mm
 subst hv1 hv2 hv3
 refine SCall.enter (n := 197) (resX Γ [.cell 8 27,.tmp 9]) (hP ▸ Tryz.func29) rfl rfl (by simp) (resX_ok rfl) ?_
 refine SX.seq_k fun K1 hK1=>?_
 refine SX.region_d [some 4,some 5,some 6,some 7,some 8,some 9] rfl (fun ops hops=>?_)
 unfold Dsts at hops
 simp (dsimp:=false)(disch:=omega) only [go_sem,Φa,hP,hops]
 intro bg
 try refine stI ?_
 try simp (dsimp:=false)(disch:=omega) only [go_sem,Φa,hP,hops]
 intro bo
 try refine stI ?_
 try simp (dsimp:=false)(disch:=omega) only [go_sem,Φa,hP,hops]
 intro bf
 try refine stI ?_
 try simp (dsimp:=false)(disch:=omega) only [go_sem,Φa,hP,hops]
 intro bd
 try refine stI ?_
 try simp (dsimp:=false)(disch:=omega) only [go_sem,Φa,hP,hops]
 intro b8
 try refine stI ?_
 try simp (dsimp:=false)(disch:=omega) only [go_sem,Φa,hP,hops]
 refine hK1 _ _ ?_
 try clear hK1 K1
 refine SX.seq_k fun K2 hK2=>?_
 refine SX.region_d [some 13,some 14,some 15,some 16,some 17,some 10] rfl (fun ops hops=>?_)
 unfold Dsts at hops
 simp (dsimp:=false)(disch:=omega) only [go_sem,Φa,hP,hops]
 refine ⟨_,Cell.at 3 rfl (show (Ord.cells _)[1]? = _ from rfl),?_⟩
 try refine stI ?_
 try simp (dsimp:=false)(disch:=omega) only [go_sem,Φa,hP,hops]
 refine ⟨.int .u8 (vG g o.x),Cell.at 4 rfl (gV hx),?_⟩
 try refine stI ?_
 try simp (dsimp:=false)(disch:=omega) only [go_sem,Φa,hP,hops]
 refine hK2 _ _ ?_
 try clear hK2 K2
 refine SX.live [4,5,6,7,8,10] (fun T1 hT1=>?_)
 simp only [forall_mem_cons',forall_mem_nil',go_sem,Φa,hP] at hT1
 obtain ⟨h1_4,h1_5,h1_6,h1_7,h1_8,h1_10⟩ := hT1
 refine SX.seq_k fun K3 hK3=>?_
 refine SX.region_d [some 18,some 19,some 20,some 21,some 22,some 11] rfl (fun ops hops=>?_)
 unfold Dsts at hops
 simp (dsimp:=false)(disch:=omega) only [go_sem,Φa,hP,h1_4,h1_5,h1_6,h1_7,h1_8,h1_10,hops]
 refine ⟨_,Cell.at 3 rfl (show (Ord.cells _)[2]? = _ from rfl),?_⟩
 try refine stI ?_
 try simp (dsimp:=false)(disch:=omega) only [go_sem,Φa,hP,h1_4,h1_5,h1_6,h1_7,h1_8,h1_10,hops]
 refine ⟨.int .u8 (vG g o.y),Cell.at 4 rfl (gV hy),?_⟩
 try refine stI ?_
 try simp (dsimp:=false)(disch:=omega) only [go_sem,Φa,hP,h1_4,h1_5,h1_6,h1_7,h1_8,h1_10,hops]
 refine hK3 _ _ ?_
 try clear hK3 K3
 refine SX.live [4,5,6,7,8,10,11] (fun T2 hT2=>?_)
 simp only [forall_mem_cons',forall_mem_nil',go_sem,Φa,hP,h1_4,h1_5,h1_6,h1_7,h1_8,h1_10] at hT2
 obtain ⟨h2_4,h2_5,h2_6,h2_7,h2_8,h2_10,h2_11⟩ := hT2
 clear h1_4 h1_5 h1_6 h1_7 h1_8 h1_10 T1
 refine SX.join (fun (ss : (Value) × (Value) × (Value) × (Slot) × (Slot) × (Slot)) T L'=>(fun (sv' : Value) (pv' : Value) (mv' : Value) (q1 : Slot) (q2 : Slot) (q3 : Slot)=>T 4 = T2 4 ∧ T 8 = T2 8 ∧ L' = some (b8,.cells #[.int .u8 0,.int .u8 0,.int .u8 0,.int .u8 0,.int .u8 0,.int .u8 0,.int .u8 0,.int .u8 0,.int .u8 0,.int .u8 0,.int .u8 0,.int .u8 0,.int .u8 0,.int .u8 0,.int .u8 0,.int .u8 0,.int .u16 0,.int .u16 0,.slice none 0 0,.int .u8 0,.int .u8 0,.slice none 0 0,.slice none 0 0] 27 (0,0)) :: some (bd,.cells d.cells.toArray 38 (0,0)) :: some (bf,.cells (f.cells fv).toArray 30 (0,0)) :: some (bo,.cells o.cells.toArray 60 (0,0)) :: some (bg,.cells (GM.cells (doG g o f d).2 sv' pv' mv').toArray 27 (0,0)) :: q1 :: q2 :: q3 :: L ∧ ((doG g o f d).1 = 1 ∧ Rows (doG g o f d).2 sv' pv' mv' q1 q2 q3)) (ss.1) (ss.2.1) (ss.2.2.1) (ss.2.2.2.1) (ss.2.2.2.2.1) (ss.2.2.2.2.2)) (fun K4 hK4=>?_) ?_
 ·simp only [h2_4,h2_8] at hK4
  refine SX.seq_k fun K5 hK5=>?_
  refine SX.region_d [some 23,some 24] rfl (fun ops hops=>?_)
  unfold Dsts at hops
  simp (dsimp:=false)(disch:=omega) only [go_sem,Φa,hP,h2_4,h2_5,h2_6,h2_7,h2_8,h2_10,h2_11,hops]
  refine ⟨_,Cell.at 3 rfl (show (Ord.cells _)[0]? = _ from rfl),?_⟩
  try refine stI ?_
  try simp (dsimp:=false)(disch:=omega) only [go_sem,Φa,hP,h2_4,h2_5,h2_6,h2_7,h2_8,h2_10,h2_11,hops]
  refine hK5 _ _ ?_
  try clear hK5 K5
  refine SX.block ?_
  refine SX.seq_k fun K6 hK6=>?_
  refine SX.region_d [some 33,some 32] rfl (fun ops hops=>?_)
  unfold Dsts at hops
  simp (dsimp:=false)(disch:=omega) only [go_sem,Φa,hP,h2_4,h2_5,h2_6,h2_7,h2_8,h2_10,h2_11,hops]
  repeat' ((first | refine And.intro (by omega) ?_ | fail); try refine stI ?_; try simp (dsimp:=false)(disch:=omega) only [go_sem,Φa,hP,h2_4,h2_5,h2_6,h2_7,h2_8,h2_10,h2_11,hops])
  refine hK6 _ _ ?_
  try clear hK6 K6
  refine SX.cond_k fun X7 Y7 hX7 hY7=>?_
  simp (dsimp:=false)(disch:=omega) only [go_sem,Φa,hP,h2_4,h2_5,h2_6,h2_7,h2_8,h2_10,h2_11,condVC]
  refine ⟨fun hc32=>hX7 ?_,fun hc32=>hY7 ?_⟩
  ·clear hX7 hY7 X7 Y7
   have hD : doG g o f d = (1,({ g with pg := List.replicate 256 0 } : GM)) := by
    unfold doG
    rw [show o.op = 2 by omega]
    rfl
   
   refine SX.region_d [some 34,some 35,none] rfl (fun ops hops=>?_)
   unfold Dsts at hops
   simp (dsimp:=false)(disch:=omega) only [go_sem,Φa,hP,h2_4,h2_5,h2_6,h2_7,h2_8,h2_10,h2_11,hops]
   intro b9
   try refine stI ?_
   try simp (dsimp:=false)(disch:=omega) only [go_sem,Φa,hP,h2_4,h2_5,h2_6,h2_7,h2_8,h2_10,h2_11,hops]
   refine ⟨5,_,_,_,rfl,(by simp [GM.cells]),.inr (Nat.zero_le _),?_⟩
   try refine stI ?_
   try simp (dsimp:=false)(disch:=omega) only [go_sem,Φa,hP,h2_4,h2_5,h2_6,h2_7,h2_8,h2_10,h2_11,hops]
   rw [set_pgG (List.replicate 256 0)]
   refine hK4 ((.slice A1 g.st.length c1),(.slice (some ⟨b9,0,none⟩) (List.replicate 256 (0 : Int)).length 256),(.slice A3 g.mm.length c3),s1,(some (b9,.cells (zerosV [.int .u8 0] 256).toArray 5 (0,0))),s3) _ (some (b8,.cells #[.int .u8 0,.int .u8 0,.int .u8 0,.int .u8 0,.int .u8 0,.int .u8 0,.int .u8 0,.int .u8 0,.int .u8 0,.int .u8 0,.int .u8 0,.int .u8 0,.int .u8 0,.int .u8 0,.int .u8 0,.int .u8 0,.int .u16 0,.int .u16 0,.slice none 0 0,.int .u8 0,.int .u8 0,.slice none 0 0,.slice none 0 0] 27 (0,0)) :: some (bd,.cells d.cells.toArray 38 (0,0)) :: some (bf,.cells (f.cells fv).toArray 30 (0,0)) :: some (bo,.cells o.cells.toArray 60 (0,0)) :: some (bg,.cells (GM.cells (doG g o f d).2 (.slice A1 g.st.length c1) (.slice (some ⟨b9,0,none⟩) (List.replicate 256 (0 : Int)).length 256) (.slice A3 g.mm.length c3)).toArray 27 (0,0)) :: s1 :: (some (b9,.cells (zerosV [.int .u8 0] 256).toArray 5 (0,0))) :: s3 :: L) _ (by rw [hD]; exact lessPut _ 6 _) ?_
   try dsimp only
   refine ⟨?_,?_,?_,?_⟩
   ·simp (dsimp:=false)(disch:=omega) only [go_sem,Φa,hP,h2_4,h2_5,h2_6,h2_7,h2_8,h2_10,h2_11]
   ·simp (dsimp:=false)(disch:=omega) only [go_sem,Φa,hP,h2_4,h2_5,h2_6,h2_7,h2_8,h2_10,h2_11]
   ·rw [hD]
   exact ⟨by rw [hD],by rw [hD]; exact ⟨hr.st,rowMade .u8 5 b9 256 (by decide),hr.mm⟩⟩
  clear hX7 hY7 X7 Y7
  refine SX.seq_k fun K8 hK8=>?_
  refine SX.region_d [some 37,some 36] rfl (fun ops hops=>?_)
  unfold Dsts at hops
  simp (dsimp:=false)(disch:=omega) only [go_sem,Φa,hP,h2_4,h2_5,h2_6,h2_7,h2_8,h2_10,h2_11,hops]
  repeat' ((first | refine And.intro (by omega) ?_ | fail); try refine stI ?_; try simp (dsimp:=false)(disch:=omega) only [go_sem,Φa,hP,h2_4,h2_5,h2_6,h2_7,h2_8,h2_10,h2_11,hops])
  refine hK8 _ _ ?_
  try clear hK8 K8
  refine SX.cond_k fun X9 Y9 hX9 hY9=>?_
  simp (dsimp:=false)(disch:=omega) only [go_sem,Φa,hP,h2_4,h2_5,h2_6,h2_7,h2_8,h2_10,h2_11,condVC]
  refine ⟨fun hc36=>hX9 ?_,fun hc36=>hY9 ?_⟩
  ·clear hX9 hY9 X9 Y9
   refine SX.seq_k fun K10 hK10=>?_
   refine SX.region_d [some 38,some 39,some 40,some 12] rfl (fun ops hops=>?_)
   unfold Dsts at hops
   simp (dsimp:=false)(disch:=omega) only [go_sem,Φa,hP,h2_4,h2_5,h2_6,h2_7,h2_8,h2_10,h2_11,hops]
   refine ⟨_,Cell.at 4 rfl (show (GM.cells _ _ _ _)[18]? = _ from rfl),?_⟩
   try refine stI ?_
   try simp (dsimp:=false)(disch:=omega) only [go_sem,Φa,hP,h2_4,h2_5,h2_6,h2_7,h2_8,h2_10,h2_11,hops]
   refine hK10 _ _ ?_
   try clear hK10 K10
   refine SX.live [4,8,12] (fun T3 hT3=>?_)
   simp only [forall_mem_cons',forall_mem_nil',go_sem,Φa,hP,h2_4,h2_5,h2_6,h2_7,h2_8,h2_10,h2_11] at hT3
   obtain ⟨h3_4,h3_8,h3_12⟩ := hT3
   clear h2_4 h2_5 h2_6 h2_7 h2_8 h2_10 h2_11 T2
   refine SX.seq_k fun K11 hK11=>?_
   refine SX.seq_k fun K12 hK12=>?_
   refine SX.region_d [some 41,some 42] rfl (fun ops hops=>?_)
   unfold Dsts at hops
   simp (dsimp:=false)(disch:=omega) only [go_sem,Φa,hP,h3_4,h3_8,h3_12,hops]
   repeat' ((first | refine And.intro (by omega) ?_ | fail); try refine stI ?_; try simp (dsimp:=false)(disch:=omega) only [go_sem,Φa,hP,h3_4,h3_8,h3_12,hops])
   refine hK12 _ _ ?_
   try clear hK12 K12
   refine SX.cond_k fun X13 Y13 hX13 hY13=>?_
   simp (dsimp:=false)(disch:=omega) only [go_sem,Φa,hP,h3_4,h3_8,h3_12,condVC]
   refine ⟨fun hc42=>hX13 ?_,fun hc42=>hY13 ?_⟩
   ·clear hX13 hY13 X13 Y13
    refine SX.seq_k fun K14 hK14=>?_
    refine SX.region_d [some 43,none,some 9] rfl (fun ops hops=>?_)
    unfold Dsts at hops
    simp (dsimp:=false)(disch:=omega) only [go_sem,Φa,hP,h3_4,h3_8,h3_12,hops]
    (iterate 23 refine ⟨_,Cell.at 4 rfl rfl,?_⟩)
    try refine stI ?_
    try simp (dsimp:=false)(disch:=omega) only [go_sem,Φa,hP,h3_4,h3_8,h3_12,hops]
    refine ⟨0,_,_,_,rfl,(by decide),.inr (by decide),?_⟩
    try refine stI ?_
    try simp (dsimp:=false)(disch:=omega) only [go_sem,Φa,hP,h3_4,h3_8,h3_12,hops]
    refine hK14 _ _ ?_
    try clear hK14 K14
    refine SX.ret ?_
    simp only [andThen_normal,andThen_ret,andThen_exit,inBlk_normal,inBlk_ret,inBlk_exit,Nat.reduceEqDiff,if_true,if_false,↓reduceIte,retQ_ret]
    try simp only [res0,res1,res2,res3,stK_e,resX,resK,oneOr,ld_ptr,loadVC,loadN,List.nil_append,List.cons_append,Nat.reduceAdd,Nat.add_zero,Nat.zero_add,Addr.add_lit,Addr.add_zero',add_addS,T.elA_27,T.lay_27,T.szA_27,T.zr_27,Tryz.underlying27,go_sem,Φa,hP,h3_4,h3_8,h3_12]
    refine ⟨_,_,less5d,⟨_,Cell.at 0 rfl rfl,_,Cell.at 0 rfl rfl,_,Cell.at 0 rfl rfl,_,Cell.at 0 rfl rfl,_,Cell.at 0 rfl rfl,_,Cell.at 0 rfl rfl,_,Cell.at 0 rfl rfl,_,Cell.at 0 rfl rfl,_,Cell.at 0 rfl rfl,_,Cell.at 0 rfl rfl,_,Cell.at 0 rfl rfl,_,Cell.at 0 rfl rfl,_,Cell.at 0 rfl rfl,_,Cell.at 0 rfl rfl,_,Cell.at 0 rfl rfl,_,Cell.at 0 rfl rfl,_,Cell.at 0 rfl rfl,_,Cell.at 0 rfl rfl,_,Cell.at 0 rfl rfl,_,Cell.at 0 rfl rfl,_,Cell.at 0 rfl rfl,_,Cell.at 0 rfl rfl,_,Cell.at 0 rfl rfl,rfl⟩,?_⟩
    have hD : doG g o f d = (6,g) := by
     unfold doG
     rw [show o.op = 3 by omega]
     show backG g = _
     unfold backG
     rw [if_pos (by omega)]
    rw [hD]
    exact ⟨g,_,_,_,s1,s2,s3,rfl,rfl,hr,fun h=>absurd (show (6 : Int) = 1 from h) (by decide)⟩
   clear hX13 hY13 X13 Y13
   refine SX.skip ?_
   try simp only [andThen_normal,andThen_ret,andThen_exit,inBlk_normal,inBlk_ret,inBlk_exit,Nat.reduceEqDiff,if_true,if_false,↓reduceIte]
   refine hK11 _ _ ?_
   try clear hK11 K11
   refine SX.seq_k fun K15 hK15=>?_
   have hn0 : 0 < g.st.length := by omega
   obtain ⟨rs,caps,js,hsv,hs1,hcs,hjs⟩ := RowI.form2 hr.st hn0
   cases hsv
   subst hs1
   have hw64 : IntKind.i64.wrap ((g.st.length : Int) - 1) = ((g.st.length - 1 : Nat) : Int) := by rw [w64 (by omega)]; omega
   have hlast : (ints .u16 g.st ++ js)[g.st.length - 1]? = some (.int .u16 (g.st.getD (g.st.length - 1) 0)) := ints_app_at (by omega)
   have hD : doG g o f d = (1,({ g with PC := g.st.getD (g.st.length - 1) 0,st := g.st.take (g.st.length - 1) } : GM)) := by
    unfold doG
    rw [show o.op = 3 by omega]
    show backG g = _
    unfold backG
    rw [if_neg (by omega)]
     
   refine SX.region_d [some 44,some 45,some 46,some 47,some 48,some 49,some 50,none] rfl (fun ops hops=>?_)
   unfold Dsts at hops
   simp (dsimp:=false)(disch:=omega) only [go_sem,Φa,hP,h3_4,h3_8,h3_12,hops,hw64]
   refine ⟨_,Cell.at 4 rfl (show (GM.cells _ _ _ _)[18]? = _ from rfl),?_⟩
   try refine stI ?_
   try simp (dsimp:=false)(disch:=omega) only [go_sem,Φa,hP,h3_4,h3_8,h3_12,hops,hw64]
   refine ⟨_,Cell.at 5 rfl hlast,?_⟩
   try refine stI ?_
   try simp (dsimp:=false)(disch:=omega) only [go_sem,Φa,hP,h3_4,h3_8,h3_12,hops,hw64]
   refine ⟨4,_,_,_,rfl,(by simp [GM.cells]),.inr (Nat.zero_le _),?_⟩
   try refine stI ?_
   try simp (dsimp:=false)(disch:=omega) only [go_sem,Φa,hP,h3_4,h3_8,h3_12,hops,hw64]
   rw [set_PCG]
   refine hK15 _ _ ?_
   try clear hK15 K15
   refine SX.live [4,8,12] (fun T4 hT4=>?_)
   simp only [forall_mem_cons',forall_mem_nil',go_sem,Φa,hP,h3_4,h3_8,h3_12] at hT4
   obtain ⟨h4_4,h4_8,h4_12⟩ := hT4
   clear h3_4 h3_8 h3_12 T3
   have hcap0 : 0 < c1 := by omega
   refine SX.region_d [some 51,some 52,some 53,some 54,some 55,some 56,none] rfl (fun ops hops=>?_)
   unfold Dsts at hops
   simp (dsimp:=false)(disch:=omega) only [go_sem,Φa,hP,h4_4,h4_8,h4_12,hops,hw64,cutA_lt hcap0,Nat.sub_zero]
   refine ⟨_,Cell.at 4 rfl (show (GM.cells _ _ _ _)[18]? = _ from rfl),?_⟩
   try refine stI ?_
   try simp (dsimp:=false)(disch:=omega) only [go_sem,Φa,hP,h4_4,h4_8,h4_12,hops,hw64,cutA_lt hcap0,Nat.sub_zero]
   refine ⟨4,_,_,_,rfl,(by simp [GM.cells]),.inr (Nat.zero_le _),?_⟩
   try refine stI ?_
   try simp (dsimp:=false)(disch:=omega) only [go_sem,Φa,hP,h4_4,h4_8,h4_12,hops,hw64,cutA_lt hcap0,Nat.sub_zero]
   rw [set_stG (g.st.take (g.st.length - 1))]
   dsimp only
   refine hK4 ((.slice (some ⟨rs,0,none⟩) (g.st.length - 1) c1),(.slice A2 g.pg.length c2),(.slice A3 g.mm.length c3),(some (rs,.cells (ints .u16 g.st ++ js).toArray 23 (0,0))),s2,s3) _ (some (b8,.cells #[.int .u8 0,.int .u8 0,.int .u8 0,.int .u8 0,.int .u8 0,.int .u8 0,.int .u8 0,.int .u8 0,.int .u8 0,.int .u8 0,.int .u8 0,.int .u8 0,.int .u8 0,.int .u8 0,.int .u8 0,.int .u8 0,.int .u16 0,.int .u16 0,.slice none 0 0,.int .u8 0,.int .u8 0,.slice none 0 0,.slice none 0 0] 27 (0,0)) :: some (bd,.cells d.cells.toArray 38 (0,0)) :: some (bf,.cells (f.cells fv).toArray 30 (0,0)) :: some (bo,.cells o.cells.toArray 60 (0,0)) :: some (bg,.cells (GM.cells (doG g o f d).2 (.slice (some ⟨rs,0,none⟩) (g.st.length - 1) c1) (.slice A2 g.pg.length c2) (.slice A3 g.mm.length c3)).toArray 27 (0,0)) :: (some (rs,.cells (ints .u16 g.st ++ js).toArray 23 (0,0))) :: s2 :: s3 :: L) _ (by rw [hD]; exact Less.refl _) ?_
   try dsimp only
   refine ⟨?_,?_,?_,?_⟩
   ·simp (dsimp:=false)(disch:=omega) only [go_sem,Φa,hP,h4_4,h4_8,h4_12]
   ·simp (dsimp:=false)(disch:=omega) only [go_sem,Φa,hP,h4_4,h4_8,h4_12]
   ·rw [hD]
   refine ⟨by rw [hD],?_⟩
   rw [hD]
   refine ⟨?_,hr.pg,hr.mm⟩
   have := RowI.mk2 (k := .u16) (e := 23) (l := g.st.take (g.st.length - 1)) (r := rs) (cap := c1) (junk := ints .u16 (g.st.drop (g.st.length - 1)) ++ js) (by rw [List.length_take]; omega) (by rw [List.length_take,List.length_append,ints_length,List.length_drop]; omega)
   rw [← takeSplit,show (g.st.take (g.st.length - 1)).length = g.st.length - 1 by rw [List.length_take]; omega] at this
   exact this
  clear hX9 hY9 X9 Y9
  refine SX.seq_k fun K16 hK16=>?_
  refine SX.region_d [some 58,some 57] rfl (fun ops hops=>?_)
  unfold Dsts at hops
  simp (dsimp:=false)(disch:=omega) only [go_sem,Φa,hP,h2_4,h2_5,h2_6,h2_7,h2_8,h2_10,h2_11,hops]
  repeat' ((first | refine And.intro (by omega) ?_ | fail); try refine stI ?_; try simp (dsimp:=false)(disch:=omega) only [go_sem,Φa,hP,h2_4,h2_5,h2_6,h2_7,h2_8,h2_10,h2_11,hops])
  refine hK16 _ _ ?_
  try clear hK16 K16
  refine SX.cond_k fun X17 Y17 hX17 hY17=>?_
  simp (dsimp:=false)(disch:=omega) only [go_sem,Φa,hP,h2_4,h2_5,h2_6,h2_7,h2_8,h2_10,h2_11,condVC]
  refine ⟨fun hc57=>hX17 ?_,fun hc57=>hY17 ?_⟩
  ·clear hX17 hY17 X17 Y17
   have hD : doG g o f d = (1,({ g with PC := (o.a : Int) } : GM)) := by
    unfold doG
    rw [show o.op = 4 by omega]
    rfl
     
   refine SX.region_d [some 59,some 60,some 61,none] rfl (fun ops hops=>?_)
   unfold Dsts at hops
   simp (dsimp:=false)(disch:=omega) only [go_sem,Φa,hP,h2_4,h2_5,h2_6,h2_7,h2_8,h2_10,h2_11,hops]
   refine ⟨_,Cell.at 3 rfl (show (Ord.cells _)[5]? = _ from rfl),?_⟩
   try refine stI ?_
   try simp (dsimp:=false)(disch:=omega) only [go_sem,Φa,hP,h2_4,h2_5,h2_6,h2_7,h2_8,h2_10,h2_11,hops]
   refine ⟨4,_,_,_,rfl,(by simp [GM.cells]),.inr (Nat.zero_le _),?_⟩
   try refine stI ?_
   try simp (dsimp:=false)(disch:=omega) only [go_sem,Φa,hP,h2_4,h2_5,h2_6,h2_7,h2_8,h2_10,h2_11,hops]
   rw [set_PCG]
   refine hK4 ((.slice A1 g.st.length c1),(.slice A2 g.pg.length c2),(.slice A3 g.mm.length c3),s1,s2,s3) _ (some (b8,.cells #[.int .u8 0,.int .u8 0,.int .u8 0,.int .u8 0,.int .u8 0,.int .u8 0,.int .u8 0,.int .u8 0,.int .u8 0,.int .u8 0,.int .u8 0,.int .u8 0,.int .u8 0,.int .u8 0,.int .u8 0,.int .u8 0,.int .u16 0,.int .u16 0,.slice none 0 0,.int .u8 0,.int .u8 0,.slice none 0 0,.slice none 0 0] 27 (0,0)) :: some (bd,.cells d.cells.toArray 38 (0,0)) :: some (bf,.cells (f.cells fv).toArray 30 (0,0)) :: some (bo,.cells o.cells.toArray 60 (0,0)) :: some (bg,.cells (GM.cells (doG g o f d).2 (.slice A1 g.st.length c1) (.slice A2 g.pg.length c2) (.slice A3 g.mm.length c3)).toArray 27 (0,0)) :: s1 :: s2 :: s3 :: L) _ (by rw [hD]; exact Less.refl _) ?_
   try dsimp only
   refine ⟨?_,?_,?_,?_⟩
   ·simp (dsimp:=false)(disch:=omega) only [go_sem,Φa,hP,h2_4,h2_5,h2_6,h2_7,h2_8,h2_10,h2_11]
   ·simp (dsimp:=false)(disch:=omega) only [go_sem,Φa,hP,h2_4,h2_5,h2_6,h2_7,h2_8,h2_10,h2_11]
   ·rw [hD]
   exact ⟨by rw [hD],by rw [hD]; exact hr.of rfl rfl rfl⟩
  clear hX17 hY17 X17 Y17
  refine SX.seq_k fun K18 hK18=>?_
  refine SX.region_d [some 63,some 62] rfl (fun ops hops=>?_)
  unfold Dsts at hops
  simp (dsimp:=false)(disch:=omega) only [go_sem,Φa,hP,h2_4,h2_5,h2_6,h2_7,h2_8,h2_10,h2_11,hops]
  repeat' ((first | refine And.intro (by omega) ?_ | fail); try refine stI ?_; try simp (dsimp:=false)(disch:=omega) only [go_sem,Φa,hP,h2_4,h2_5,h2_6,h2_7,h2_8,h2_10,h2_11,hops])
  refine hK18 _ _ ?_
  try clear hK18 K18
  refine SX.live [4,5,6,7,8,10,11,24,62] (fun T5 hT5=>?_)
  simp only [forall_mem_cons',forall_mem_nil',go_sem,Φa,hP,h2_4,h2_5,h2_6,h2_7,h2_8,h2_10,h2_11] at hT5
  obtain ⟨h5_4,h5_5,h5_6,h5_7,h5_8,h5_10,h5_11,h5_24,h5_62⟩ := hT5
  clear h2_4 h2_5 h2_6 h2_7 h2_8 h2_10 h2_11 T2
  refine SX.cond_k fun X19 Y19 hX19 hY19=>?_
  simp (dsimp:=false)(disch:=omega) only [go_sem,Φa,hP,h5_4,h5_5,h5_6,h5_7,h5_8,h5_10,h5_11,h5_24,h5_62,condVC]
  refine ⟨fun hc62=>hX19 ?_,fun hc62=>hY19 ?_⟩
  ·clear hX19 hY19 X19 Y19
   have hD : doG g o f d = (1,({ g with PC := IntKind.u16.wrap ((o.a : Int) + vG g 0) } : GM)) := by
    unfold doG
    rw [show o.op = 18 by omega]
    rfl
      
   refine SX.region_d [some 64,some 65,some 66,some 67,some 68,some 69,some 70,some 71,none] rfl (fun ops hops=>?_)
   unfold Dsts at hops
   simp (dsimp:=false)(disch:=omega) only [go_sem,Φa,hP,h5_4,h5_5,h5_6,h5_7,h5_8,h5_10,h5_11,h5_24,h5_62,hops]
   refine ⟨_,Cell.at 3 rfl (show (Ord.cells _)[5]? = _ from rfl),?_⟩
   try refine stI ?_
   try simp (dsimp:=false)(disch:=omega) only [go_sem,Φa,hP,h5_4,h5_5,h5_6,h5_7,h5_8,h5_10,h5_11,h5_24,h5_62,hops]
   refine ⟨.int .u8 (vG g 0),Cell.at 4 rfl (gV (by decide)),?_⟩
   try refine stI ?_
   try simp (dsimp:=false)(disch:=omega) only [go_sem,Φa,hP,h5_4,h5_5,h5_6,h5_7,h5_8,h5_10,h5_11,h5_24,h5_62,hops]
   refine ⟨4,_,_,_,rfl,(by simp [GM.cells]),.inr (Nat.zero_le _),?_⟩
   try refine stI ?_
   try simp (dsimp:=false)(disch:=omega) only [go_sem,Φa,hP,h5_4,h5_5,h5_6,h5_7,h5_8,h5_10,h5_11,h5_24,h5_62,hops]
   rw [set_PCG]
   refine hK4 ((.slice A1 g.st.length c1),(.slice A2 g.pg.length c2),(.slice A3 g.mm.length c3),s1,s2,s3) _ (some (b8,.cells #[.int .u8 0,.int .u8 0,.int .u8 0,.int .u8 0,.int .u8 0,.int .u8 0,.int .u8 0,.int .u8 0,.int .u8 0,.int .u8 0,.int .u8 0,.int .u8 0,.int .u8 0,.int .u8 0,.int .u8 0,.int .u8 0,.int .u16 0,.int .u16 0,.slice none 0 0,.int .u8 0,.int .u8 0,.slice none 0 0,.slice none 0 0] 27 (0,0)) :: some (bd,.cells d.cells.toArray 38 (0,0)) :: some (bf,.cells (f.cells fv).toArray 30 (0,0)) :: some (bo,.cells o.cells.toArray 60 (0,0)) :: some (bg,.cells (GM.cells (doG g o f d).2 (.slice A1 g.st.length c1) (.slice A2 g.pg.length c2) (.slice A3 g.mm.length c3)).toArray 27 (0,0)) :: s1 :: s2 :: s3 :: L) _ (by rw [hD]; exact Less.refl _) ?_
   try dsimp only
   refine ⟨?_,?_,?_,?_⟩
   ·simp (dsimp:=false)(disch:=omega) only [go_sem,Φa,hP,h5_4,h5_5,h5_6,h5_7,h5_8,h5_10,h5_11,h5_24,h5_62]
   ·simp (dsimp:=false)(disch:=omega) only [go_sem,Φa,hP,h5_4,h5_5,h5_6,h5_7,h5_8,h5_10,h5_11,h5_24,h5_62]
   ·rw [hD]
   exact ⟨by rw [hD],by rw [hD]; exact hr.of rfl rfl rfl⟩
  clear hX19 hY19 X19 Y19
  refine SX.seq_k fun K20 hK20=>?_
  refine SX.region_d [some 73,some 72] rfl (fun ops hops=>?_)
  unfold Dsts at hops
  simp (dsimp:=false)(disch:=omega) only [go_sem,Φa,hP,h5_4,h5_5,h5_6,h5_7,h5_8,h5_10,h5_11,h5_24,h5_62,hops]
  repeat' ((first | refine And.intro (by omega) ?_ | fail); try refine stI ?_; try simp (dsimp:=false)(disch:=omega) only [go_sem,Φa,hP,h5_4,h5_5,h5_6,h5_7,h5_8,h5_10,h5_11,h5_24,h5_62,hops])
  refine hK20 _ _ ?_
  try clear hK20 K20
  refine SX.cond_k fun X21 Y21 hX21 hY21=>?_
  simp (dsimp:=false)(disch:=omega) only [go_sem,Φa,hP,h5_4,h5_5,h5_6,h5_7,h5_8,h5_10,h5_11,h5_24,h5_62,condVC]
  refine ⟨fun hc72=>hX21 ?_,fun hc72=>hY21 ?_⟩
  ·clear hX21 hY21 X21 Y21
   refine SX.seq_k fun K22 hK22=>?_
   refine SX.seq_k fun K23 hK23=>?_
   refine SX.region_d [some 74,some 75,some 76,some 77] rfl (fun ops hops=>?_)
   unfold Dsts at hops
   simp (dsimp:=false)(disch:=omega) only [go_sem,Φa,hP,h5_4,h5_5,h5_6,h5_7,h5_8,h5_10,h5_11,h5_24,h5_62,hops]
   refine ⟨_,Cell.at 4 rfl (show (GM.cells _ _ _ _)[18]? = _ from rfl),?_⟩
   try refine stI ?_
   try simp (dsimp:=false)(disch:=omega) only [go_sem,Φa,hP,h5_4,h5_5,h5_6,h5_7,h5_8,h5_10,h5_11,h5_24,h5_62,hops]
   refine hK23 _ _ ?_
   try clear hK23 K23
   refine SX.cond_k fun X24 Y24 hX24 hY24=>?_
   simp (dsimp:=false)(disch:=omega) only [go_sem,Φa,hP,h5_4,h5_5,h5_6,h5_7,h5_8,h5_10,h5_11,h5_24,h5_62,condVC]
   refine ⟨fun hc77=>hX24 ?_,fun hc77=>hY24 ?_⟩
   ·clear hX24 hY24 X24 Y24
    refine SX.seq_k fun K25 hK25=>?_
    refine SX.region_d [some 78,none,some 9] rfl (fun ops hops=>?_)
    unfold Dsts at hops
    simp (dsimp:=false)(disch:=omega) only [go_sem,Φa,hP,h5_4,h5_5,h5_6,h5_7,h5_8,h5_10,h5_11,h5_24,h5_62,hops]
    (iterate 23 refine ⟨_,Cell.at 4 rfl rfl,?_⟩)
    try refine stI ?_
    try simp (dsimp:=false)(disch:=omega) only [go_sem,Φa,hP,h5_4,h5_5,h5_6,h5_7,h5_8,h5_10,h5_11,h5_24,h5_62,hops]
    refine ⟨0,_,_,_,rfl,(by decide),.inr (by decide),?_⟩
    try refine stI ?_
    try simp (dsimp:=false)(disch:=omega) only [go_sem,Φa,hP,h5_4,h5_5,h5_6,h5_7,h5_8,h5_10,h5_11,h5_24,h5_62,hops]
    refine hK25 _ _ ?_
    try clear hK25 K25
    refine SX.ret ?_
    simp only [andThen_normal,andThen_ret,andThen_exit,inBlk_normal,inBlk_ret,inBlk_exit,Nat.reduceEqDiff,if_true,if_false,↓reduceIte,retQ_ret]
    try simp only [res0,res1,res2,res3,stK_e,resX,resK,oneOr,ld_ptr,loadVC,loadN,List.nil_append,List.cons_append,Nat.reduceAdd,Nat.add_zero,Nat.zero_add,Addr.add_lit,Addr.add_zero',add_addS,T.elA_27,T.lay_27,T.szA_27,T.zr_27,Tryz.underlying27,go_sem,Φa,hP,h5_4,h5_5,h5_6,h5_7,h5_8,h5_10,h5_11,h5_24,h5_62]
    refine ⟨_,_,less5d,⟨_,Cell.at 0 rfl rfl,_,Cell.at 0 rfl rfl,_,Cell.at 0 rfl rfl,_,Cell.at 0 rfl rfl,_,Cell.at 0 rfl rfl,_,Cell.at 0 rfl rfl,_,Cell.at 0 rfl rfl,_,Cell.at 0 rfl rfl,_,Cell.at 0 rfl rfl,_,Cell.at 0 rfl rfl,_,Cell.at 0 rfl rfl,_,Cell.at 0 rfl rfl,_,Cell.at 0 rfl rfl,_,Cell.at 0 rfl rfl,_,Cell.at 0 rfl rfl,_,Cell.at 0 rfl rfl,_,Cell.at 0 rfl rfl,_,Cell.at 0 rfl rfl,_,Cell.at 0 rfl rfl,_,Cell.at 0 rfl rfl,_,Cell.at 0 rfl rfl,_,Cell.at 0 rfl rfl,_,Cell.at 0 rfl rfl,rfl⟩,?_⟩
    have hD : doG g o f d = (5,g) := by
     unfold doG
     rw [show o.op = 5 by omega]
     show callG g o = _
     unfold callG
     rw [if_pos (by omega)]
    rw [hD]
    exact ⟨g,_,_,_,s1,s2,s3,rfl,rfl,hr,fun h=>absurd (show (5 : Int) = 1 from h) (by decide)⟩
   clear hX24 hY24 X24 Y24
   refine SX.skip ?_
   try simp only [andThen_normal,andThen_ret,andThen_exit,inBlk_normal,inBlk_ret,inBlk_exit,Nat.reduceEqDiff,if_true,if_false,↓reduceIte]
   refine hK22 _ _ ?_
   try clear hK22 K22
   refine SX.seq_k fun K26 hK26=>?_
   have hD : doG g o f d = (1,({ g with st := g.st ++ [g.PC],PC := (o.a : Int) } : GM)) := by
    unfold doG
    rw [show o.op = 5 by omega]
    show callG g o = _
    unfold callG
    rw [if_neg (by omega)]
        
   refine SX.region_d [some 79,some 80,some 81,some 82,some 83,some 84,some 85,none] rfl (fun ops hops=>?_)
   unfold Dsts at hops
   simp (dsimp:=false)(disch:=omega) only [go_sem,Φa,hP,h5_4,h5_5,h5_6,h5_7,h5_8,h5_10,h5_11,h5_24,h5_62,hops]
   refine ⟨_,Cell.at 4 rfl (show (GM.cells _ _ _ _)[18]? = _ from rfl),?_⟩
   try refine stI ?_
   try simp (dsimp:=false)(disch:=omega) only [go_sem,Φa,hP,h5_4,h5_5,h5_6,h5_7,h5_8,h5_10,h5_11,h5_24,h5_62,hops]
   refine ⟨_,Cell.at 4 rfl (show (GM.cells _ _ _ _)[17]? = _ from rfl),?_⟩
   try refine stI ?_
   try simp (dsimp:=false)(disch:=omega) only [go_sem,Φa,hP,h5_4,h5_5,h5_6,h5_7,h5_8,h5_10,h5_11,h5_24,h5_62,hops]
   intro bb
   try refine stI ?_
   try simp (dsimp:=false)(disch:=omega) only [go_sem,Φa,hP,h5_4,h5_5,h5_6,h5_7,h5_8,h5_10,h5_11,h5_24,h5_62,hops]
   refine YAppend.int1 (i := 5) (hP ▸ T.elS_24) (hP ▸ T.zr_23) rfl rfl hr.st (by omega) (by decide) (fun v2 s4 hrow2=>?_)
   try refine stI ?_
   try simp (dsimp:=false)(disch:=omega) only [go_sem,Φa,hP,h5_4,h5_5,h5_6,h5_7,h5_8,h5_10,h5_11,h5_24,h5_62,hops]
   obtain ⟨A4,c4,hv4,_,_⟩ := Row.form hrow2
   subst hv4
   try refine stI ?_
   try simp (dsimp:=false)(disch:=omega) only [go_sem,Φa,hP,h5_4,h5_5,h5_6,h5_7,h5_8,h5_10,h5_11,h5_24,h5_62,hops]
   refine ⟨5,_,_,_,rfl,(by simp [GM.cells]),.inr (Nat.zero_le _),?_⟩
   try refine stI ?_
   try simp (dsimp:=false)(disch:=omega) only [go_sem,Φa,hP,h5_4,h5_5,h5_6,h5_7,h5_8,h5_10,h5_11,h5_24,h5_62,hops]
   rw [set_stG (g.st ++ [g.PC])]
   refine hK26 _ _ ?_
   try clear hK26 K26
   refine SX.live [4,5,8] (fun T6 hT6=>?_)
   simp only [forall_mem_cons',forall_mem_nil',go_sem,Φa,hP,h5_4,h5_5,h5_6,h5_7,h5_8,h5_10,h5_11,h5_24,h5_62] at hT6
   obtain ⟨h6_4,h6_5,h6_8⟩ := hT6
   clear h5_4 h5_5 h5_6 h5_7 h5_8 h5_10 h5_11 h5_24 h5_62 T5
   refine SX.region_d [some 86,some 87,some 88,none] rfl (fun ops hops=>?_)
   unfold Dsts at hops
   simp (dsimp:=false)(disch:=omega) only [go_sem,Φa,hP,h6_4,h6_5,h6_8,hops]
   refine ⟨_,Cell.at 4 rfl (show (Ord.cells _)[5]? = _ from rfl),?_⟩
   try refine stI ?_
   try simp (dsimp:=false)(disch:=omega) only [go_sem,Φa,hP,h6_4,h6_5,h6_8,hops]
   refine ⟨5,_,_,_,rfl,(by simp [GM.cells]),.inr (Nat.zero_le _),?_⟩
   try refine stI ?_
   try simp (dsimp:=false)(disch:=omega) only [go_sem,Φa,hP,h6_4,h6_5,h6_8,hops]
   rw [set_PCG]
   refine hK4 ((.slice A4 (g.st ++ [g.PC]).length c4),(.slice A2 g.pg.length c2),(.slice A3 g.mm.length c3),s4,s2,s3) _ (some (b8,.cells #[.int .u8 0,.int .u8 0,.int .u8 0,.int .u8 0,.int .u8 0,.int .u8 0,.int .u8 0,.int .u8 0,.int .u8 0,.int .u8 0,.int .u8 0,.int .u8 0,.int .u8 0,.int .u8 0,.int .u8 0,.int .u8 0,.int .u16 0,.int .u16 0,.slice none 0 0,.int .u8 0,.int .u8 0,.slice none 0 0,.slice none 0 0] 27 (0,0)) :: some (bd,.cells d.cells.toArray 38 (0,0)) :: some (bf,.cells (f.cells fv).toArray 30 (0,0)) :: some (bo,.cells o.cells.toArray 60 (0,0)) :: some (bg,.cells (GM.cells (doG g o f d).2 (.slice A4 (g.st ++ [g.PC]).length c4) (.slice A2 g.pg.length c2) (.slice A3 g.mm.length c3)).toArray 27 (0,0)) :: s4 :: s2 :: s3 :: L) _ (by rw [hD]; exact Less.drop _ _) ?_
   try dsimp only
   refine ⟨?_,?_,?_,?_⟩
   ·simp (dsimp:=false)(disch:=omega) only [go_sem,Φa,hP,h6_4,h6_5,h6_8]
   ·simp (dsimp:=false)(disch:=omega) only [go_sem,Φa,hP,h6_4,h6_5,h6_8]
   ·rw [hD]
   exact ⟨by rw [hD],by rw [hD]; exact ⟨hrow2,hr.pg,hr.mm⟩⟩
  clear hX21 hY21 X21 Y21
  refine SX.seq_k fun K27 hK27=>?_
  refine SX.region_d [some 90,some 89] rfl (fun ops hops=>?_)
  unfold Dsts at hops
  simp (dsimp:=false)(disch:=omega) only [go_sem,Φa,hP,h5_4,h5_5,h5_6,h5_7,h5_8,h5_10,h5_11,h5_24,h5_62,hops]
  repeat' ((first | refine And.intro (by omega) ?_ | fail); try refine stI ?_; try simp (dsimp:=false)(disch:=omega) only [go_sem,Φa,hP,h5_4,h5_5,h5_6,h5_7,h5_8,h5_10,h5_11,h5_24,h5_62,hops])
  refine hK27 _ _ ?_
  try clear hK27 K27
  refine SX.cond_k fun X28 Y28 hX28 hY28=>?_
  simp (dsimp:=false)(disch:=omega) only [go_sem,Φa,hP,h5_4,h5_5,h5_6,h5_7,h5_8,h5_10,h5_11,h5_24,h5_62,condVC]
  refine ⟨fun hc89=>hX28 ?_,fun hc89=>hY28 ?_⟩
  ·clear hX28 hY28 X28 Y28
   have hD : doG g o f d = (1,(skipG g (decide (vG g o.x = (o.b : Int)))).2) := by
    unfold doG
    rw [show o.op = 6 by omega]
    rfl
        
   refine SX.region_d [some 91,some 92,some 93,some 94,some 95,some 96,none] rfl (fun ops hops=>?_)
   unfold Dsts at hops
   simp (dsimp:=false)(disch:=omega) only [go_sem,Φa,hP,h5_4,h5_5,h5_6,h5_7,h5_8,h5_10,h5_11,h5_24,h5_62,hops]
   ((iterate 23 refine ⟨_,Cell.at 4 rfl rfl,?_⟩); rw [lit_g])
   try refine stI ?_
   try simp (dsimp:=false)(disch:=omega) only [go_sem,Φa,hP,h5_4,h5_5,h5_6,h5_7,h5_8,h5_10,h5_11,h5_24,h5_62,hops]
   refine ⟨_,Cell.at 3 rfl (show (Ord.cells _)[4]? = _ from rfl),?_⟩
   try refine stI ?_
   try simp (dsimp:=false)(disch:=omega) only [go_sem,Φa,hP,h5_4,h5_5,h5_6,h5_7,h5_8,h5_10,h5_11,h5_24,h5_62,hops]
   refine SCall.mono (skipped_spec (g := g) (b := decide (vG g o.x = (o.b : Int))) hP ⟨_,_,_,rfl⟩ ⟨_,_,_,rfl⟩ ⟨_,_,_,rfl⟩) ?_
   rintro v_ L_ ⟨rfl,rfl⟩
   try refine stI ?_
   try simp (dsimp:=false)(disch:=omega) only [go_sem,Φa,hP,h5_4,h5_5,h5_6,h5_7,h5_8,h5_10,h5_11,h5_24,h5_62,hops]
   refine ⟨rfl,rfl,4,_,_,_,rfl,Nat.le_refl 23,.inr (Nat.zero_le 0),?_⟩
   try refine stI ?_
   try simp (dsimp:=false)(disch:=omega) only [go_sem,Φa,hP,h5_4,h5_5,h5_6,h5_7,h5_8,h5_10,h5_11,h5_24,h5_62,hops]
   rw [put_g rfl]
   refine hK4 ((.slice A1 g.st.length c1),(.slice A2 g.pg.length c2),(.slice A3 g.mm.length c3),s1,s2,s3) _ (some (b8,.cells #[.int .u8 0,.int .u8 0,.int .u8 0,.int .u8 0,.int .u8 0,.int .u8 0,.int .u8 0,.int .u8 0,.int .u8 0,.int .u8 0,.int .u8 0,.int .u8 0,.int .u8 0,.int .u8 0,.int .u8 0,.int .u8 0,.int .u16 0,.int .u16 0,.slice none 0 0,.int .u8 0,.int .u8 0,.slice none 0 0,.slice none 0 0] 27 (0,0)) :: some (bd,.cells d.cells.toArray 38 (0,0)) :: some (bf,.cells (f.cells fv).toArray 30 (0,0)) :: some (bo,.cells o.cells.toArray 60 (0,0)) :: some (bg,.cells (GM.cells (doG g o f d).2 (.slice A1 g.st.length c1) (.slice A2 g.pg.length c2) (.slice A3 g.mm.length c3)).toArray 27 (0,0)) :: s1 :: s2 :: s3 :: L) _ (by rw [hD]; exact Less.refl _) ?_
   try dsimp only
   refine ⟨?_,?_,?_,?_⟩
   ·simp (dsimp:=false)(disch:=omega) only [go_sem,Φa,hP,h5_4,h5_5,h5_6,h5_7,h5_8,h5_10,h5_11,h5_24,h5_62]
   ·simp (dsimp:=false)(disch:=omega) only [go_sem,Φa,hP,h5_4,h5_5,h5_6,h5_7,h5_8,h5_10,h5_11,h5_24,h5_62]
   ·rw [hD]
   exact ⟨by rw [hD],by rw [hD]; exact hr.of skip_fields.1 skip_fields.2.1 skip_fields.2.2⟩
  clear hX28 hY28 X28 Y28
  refine SX.seq_k fun K29 hK29=>?_
  refine SX.region_d [some 98,some 97] rfl (fun ops hops=>?_)
  unfold Dsts at hops
  simp (dsimp:=false)(disch:=omega) only [go_sem,Φa,hP,h5_4,h5_5,h5_6,h5_7,h5_8,h5_10,h5_11,h5_24,h5_62,hops]
  repeat' ((first | refine And.intro (by omega) ?_ | fail); try refine stI ?_; try simp (dsimp:=false)(disch:=omega) only [go_sem,Φa,hP,h5_4,h5_5,h5_6,h5_7,h5_8,h5_10,h5_11,h5_24,h5_62,hops])
  refine hK29 _ _ ?_
  try clear hK29 K29
  refine SX.cond_k fun X30 Y30 hX30 hY30=>?_
  simp (dsimp:=false)(disch:=omega) only [go_sem,Φa,hP,h5_4,h5_5,h5_6,h5_7,h5_8,h5_10,h5_11,h5_24,h5_62,condVC]
  refine ⟨fun hc97=>hX30 ?_,fun hc97=>hY30 ?_⟩
  ·clear hX30 hY30 X30 Y30
   have hD : doG g o f d = (1,(skipG g (!decide (vG g o.x = (o.b : Int)))).2) := by
    unfold doG
    rw [show o.op = 7 by omega]
    rfl
         
   refine SX.region_d [some 99,some 100,some 101,some 102,some 103,some 104,none] rfl (fun ops hops=>?_)
   unfold Dsts at hops
   simp (dsimp:=false)(disch:=omega) only [go_sem,Φa,hP,h5_4,h5_5,h5_6,h5_7,h5_8,h5_10,h5_11,h5_24,h5_62,hops]
   ((iterate 23 refine ⟨_,Cell.at 4 rfl rfl,?_⟩); rw [lit_g])
   try refine stI ?_
   try simp (dsimp:=false)(disch:=omega) only [go_sem,Φa,hP,h5_4,h5_5,h5_6,h5_7,h5_8,h5_10,h5_11,h5_24,h5_62,hops]
   refine ⟨_,Cell.at 3 rfl (show (Ord.cells _)[4]? = _ from rfl),?_⟩
   try refine stI ?_
   try simp (dsimp:=false)(disch:=omega) only [go_sem,Φa,hP,h5_4,h5_5,h5_6,h5_7,h5_8,h5_10,h5_11,h5_24,h5_62,hops]
   refine SCall.mono (skipped_spec (g := g) (b := !decide (vG g o.x = (o.b : Int))) hP ⟨_,_,_,rfl⟩ ⟨_,_,_,rfl⟩ ⟨_,_,_,rfl⟩) ?_
   rintro v_ L_ ⟨rfl,rfl⟩
   try refine stI ?_
   try simp (dsimp:=false)(disch:=omega) only [go_sem,Φa,hP,h5_4,h5_5,h5_6,h5_7,h5_8,h5_10,h5_11,h5_24,h5_62,hops]
   refine ⟨rfl,rfl,4,_,_,_,rfl,Nat.le_refl 23,.inr (Nat.zero_le 0),?_⟩
   try refine stI ?_
   try simp (dsimp:=false)(disch:=omega) only [go_sem,Φa,hP,h5_4,h5_5,h5_6,h5_7,h5_8,h5_10,h5_11,h5_24,h5_62,hops]
   rw [put_g rfl]
   refine hK4 ((.slice A1 g.st.length c1),(.slice A2 g.pg.length c2),(.slice A3 g.mm.length c3),s1,s2,s3) _ (some (b8,.cells #[.int .u8 0,.int .u8 0,.int .u8 0,.int .u8 0,.int .u8 0,.int .u8 0,.int .u8 0,.int .u8 0,.int .u8 0,.int .u8 0,.int .u8 0,.int .u8 0,.int .u8 0,.int .u8 0,.int .u8 0,.int .u8 0,.int .u16 0,.int .u16 0,.slice none 0 0,.int .u8 0,.int .u8 0,.slice none 0 0,.slice none 0 0] 27 (0,0)) :: some (bd,.cells d.cells.toArray 38 (0,0)) :: some (bf,.cells (f.cells fv).toArray 30 (0,0)) :: some (bo,.cells o.cells.toArray 60 (0,0)) :: some (bg,.cells (GM.cells (doG g o f d).2 (.slice A1 g.st.length c1) (.slice A2 g.pg.length c2) (.slice A3 g.mm.length c3)).toArray 27 (0,0)) :: s1 :: s2 :: s3 :: L) _ (by rw [hD]; exact Less.refl _) ?_
   try dsimp only
   refine ⟨?_,?_,?_,?_⟩
   ·simp (dsimp:=false)(disch:=omega) only [go_sem,Φa,hP,h5_4,h5_5,h5_6,h5_7,h5_8,h5_10,h5_11,h5_24,h5_62]
   ·simp (dsimp:=false)(disch:=omega) only [go_sem,Φa,hP,h5_4,h5_5,h5_6,h5_7,h5_8,h5_10,h5_11,h5_24,h5_62]
   ·rw [hD]
   exact ⟨by rw [hD],by rw [hD]; exact hr.of skip_fields.1 skip_fields.2.1 skip_fields.2.2⟩
  clear hX30 hY30 X30 Y30
  refine SX.seq_k fun K31 hK31=>?_
  refine SX.region_d [some 106,some 105] rfl (fun ops hops=>?_)
  unfold Dsts at hops
  simp (dsimp:=false)(disch:=omega) only [go_sem,Φa,hP,h5_4,h5_5,h5_6,h5_7,h5_8,h5_10,h5_11,h5_24,h5_62,hops]
  repeat' ((first | refine And.intro (by omega) ?_ | fail); try refine stI ?_; try simp (dsimp:=false)(disch:=omega) only [go_sem,Φa,hP,h5_4,h5_5,h5_6,h5_7,h5_8,h5_10,h5_11,h5_24,h5_62,hops])
  refine hK31 _ _ ?_
  try clear hK31 K31
  refine SX.cond_k fun X32 Y32 hX32 hY32=>?_
  simp (dsimp:=false)(disch:=omega) only [go_sem,Φa,hP,h5_4,h5_5,h5_6,h5_7,h5_8,h5_10,h5_11,h5_24,h5_62,condVC]
  refine ⟨fun hc105=>hX32 ?_,fun hc105=>hY32 ?_⟩
  ·clear hX32 hY32 X32 Y32
   have hD : doG g o f d = (1,(skipG g (decide (vG g o.x = vG g o.y))).2) := by
    unfold doG
    rw [show o.op = 8 by omega]
    rfl
          
   refine SX.region_d [some 107,some 108,some 109,some 110,some 111,none] rfl (fun ops hops=>?_)
   unfold Dsts at hops
   simp (dsimp:=false)(disch:=omega) only [go_sem,Φa,hP,h5_4,h5_5,h5_6,h5_7,h5_8,h5_10,h5_11,h5_24,h5_62,hops]
   ((iterate 23 refine ⟨_,Cell.at 4 rfl rfl,?_⟩); rw [lit_g])
   try refine stI ?_
   try simp (dsimp:=false)(disch:=omega) only [go_sem,Φa,hP,h5_4,h5_5,h5_6,h5_7,h5_8,h5_10,h5_11,h5_24,h5_62,hops]
   refine SCall.mono (skipped_spec (g := g) (b := decide (vG g o.x = vG g o.y)) hP ⟨_,_,_,rfl⟩ ⟨_,_,_,rfl⟩ ⟨_,_,_,rfl⟩) ?_
   rintro v_ L_ ⟨rfl,rfl⟩
   try refine stI ?_
   try simp (dsimp:=false)(disch:=omega) only [go_sem,Φa,hP,h5_4,h5_5,h5_6,h5_7,h5_8,h5_10,h5_11,h5_24,h5_62,hops]
   refine ⟨rfl,rfl,4,_,_,_,rfl,Nat.le_refl 23,.inr (Nat.zero_le 0),?_⟩
   try refine stI ?_
   try simp (dsimp:=false)(disch:=omega) only [go_sem,Φa,hP,h5_4,h5_5,h5_6,h5_7,h5_8,h5_10,h5_11,h5_24,h5_62,hops]
   rw [put_g rfl]
   refine hK4 ((.slice A1 g.st.length c1),(.slice A2 g.pg.length c2),(.slice A3 g.mm.length c3),s1,s2,s3) _ (some (b8,.cells #[.int .u8 0,.int .u8 0,.int .u8 0,.int .u8 0,.int .u8 0,.int .u8 0,.int .u8 0,.int .u8 0,.int .u8 0,.int .u8 0,.int .u8 0,.int .u8 0,.int .u8 0,.int .u8 0,.int .u8 0,.int .u8 0,.int .u16 0,.int .u16 0,.slice none 0 0,.int .u8 0,.int .u8 0,.slice none 0 0,.slice none 0 0] 27 (0,0)) :: some (bd,.cells d.cells.toArray 38 (0,0)) :: some (bf,.cells (f.cells fv).toArray 30 (0,0)) :: some (bo,.cells o.cells.toArray 60 (0,0)) :: some (bg,.cells (GM.cells (doG g o f d).2 (.slice A1 g.st.length c1) (.slice A2 g.pg.length c2) (.slice A3 g.mm.length c3)).toArray 27 (0,0)) :: s1 :: s2 :: s3 :: L) _ (by rw [hD]; exact Less.refl _) ?_
   try dsimp only
   refine ⟨?_,?_,?_,?_⟩
   ·simp (dsimp:=false)(disch:=omega) only [go_sem,Φa,hP,h5_4,h5_5,h5_6,h5_7,h5_8,h5_10,h5_11,h5_24,h5_62]
   ·simp (dsimp:=false)(disch:=omega) only [go_sem,Φa,hP,h5_4,h5_5,h5_6,h5_7,h5_8,h5_10,h5_11,h5_24,h5_62]
   ·rw [hD]
   exact ⟨by rw [hD],by rw [hD]; exact hr.of skip_fields.1 skip_fields.2.1 skip_fields.2.2⟩
  clear hX32 hY32 X32 Y32
  refine SX.seq_k fun K33 hK33=>?_
  refine SX.region_d [some 113,some 112] rfl (fun ops hops=>?_)
  unfold Dsts at hops
  simp (dsimp:=false)(disch:=omega) only [go_sem,Φa,hP,h5_4,h5_5,h5_6,h5_7,h5_8,h5_10,h5_11,h5_24,h5_62,hops]
  repeat' ((first | refine And.intro (by omega) ?_ | fail); try refine stI ?_; try simp (dsimp:=false)(disch:=omega) only [go_sem,Φa,hP,h5_4,h5_5,h5_6,h5_7,h5_8,h5_10,h5_11,h5_24,h5_62,hops])
  refine hK33 _ _ ?_
  try clear hK33 K33
  refine SX.live [4,5,6,7,8,10,11,24,112] (fun T7 hT7=>?_)
  simp only [forall_mem_cons',forall_mem_nil',go_sem,Φa,hP,h5_4,h5_5,h5_6,h5_7,h5_8,h5_10,h5_11,h5_24,h5_62] at hT7
  obtain ⟨h7_4,h7_5,h7_6,h7_7,h7_8,h7_10,h7_11,h7_24,h7_112⟩ := hT7
  clear h5_4 h5_5 h5_6 h5_7 h5_8 h5_10 h5_11 h5_24 h5_62 T5
  refine SX.cond_k fun X34 Y34 hX34 hY34=>?_
  simp (dsimp:=false)(disch:=omega) only [go_sem,Φa,hP,h7_4,h7_5,h7_6,h7_7,h7_8,h7_10,h7_11,h7_24,h7_112,condVC]
  refine ⟨fun hc112=>hX34 ?_,fun hc112=>hY34 ?_⟩
  ·clear hX34 hY34 X34 Y34
   have hD : doG g o f d = (1,(skipG g (!decide (vG g o.x = vG g o.y))).2) := by
    unfold doG
    rw [show o.op = 16 by omega]
    rfl
           
   refine SX.region_d [some 114,some 115,some 116,some 117,some 118,none] rfl (fun ops hops=>?_)
   unfold Dsts at hops
   simp (dsimp:=false)(disch:=omega) only [go_sem,Φa,hP,h7_4,h7_5,h7_6,h7_7,h7_8,h7_10,h7_11,h7_24,h7_112,hops]
   ((iterate 23 refine ⟨_,Cell.at 4 rfl rfl,?_⟩); rw [lit_g])
   try refine stI ?_
   try simp (dsimp:=false)(disch:=omega) only [go_sem,Φa,hP,h7_4,h7_5,h7_6,h7_7,h7_8,h7_10,h7_11,h7_24,h7_112,hops]
   refine SCall.mono (skipped_spec (g := g) (b := !decide (vG g o.x = vG g o.y)) hP ⟨_,_,_,rfl⟩ ⟨_,_,_,rfl⟩ ⟨_,_,_,rfl⟩) ?_
   rintro v_ L_ ⟨rfl,rfl⟩
   try refine stI ?_
   try simp (dsimp:=false)(disch:=omega) only [go_sem,Φa,hP,h7_4,h7_5,h7_6,h7_7,h7_8,h7_10,h7_11,h7_24,h7_112,hops]
   refine ⟨rfl,rfl,4,_,_,_,rfl,Nat.le_refl 23,.inr (Nat.zero_le 0),?_⟩
   try refine stI ?_
   try simp (dsimp:=false)(disch:=omega) only [go_sem,Φa,hP,h7_4,h7_5,h7_6,h7_7,h7_8,h7_10,h7_11,h7_24,h7_112,hops]
   rw [put_g rfl]
   refine hK4 ((.slice A1 g.st.length c1),(.slice A2 g.pg.length c2),(.slice A3 g.mm.length c3),s1,s2,s3) _ (some (b8,.cells #[.int .u8 0,.int .u8 0,.int .u8 0,.int .u8 0,.int .u8 0,.int .u8 0,.int .u8 0,.int .u8 0,.int .u8 0,.int .u8 0,.int .u8 0,.int .u8 0,.int .u8 0,.int .u8 0,.int .u8 0,.int .u8 0,.int .u16 0,.int .u16 0,.slice none 0 0,.int .u8 0,.int .u8 0,.slice none 0 0,.slice none 0 0] 27 (0,0)) :: some (bd,.cells d.cells.toArray 38 (0,0)) :: some (bf,.cells (f.cells fv).toArray 30 (0,0)) :: some (bo,.cells o.cells.toArray 60 (0,0)) :: some (bg,.cells (GM.cells (doG g o f d).2 (.slice A1 g.st.length c1) (.slice A2 g.pg.length c2) (.slice A3 g.mm.length c3)).toArray 27 (0,0)) :: s1 :: s2 :: s3 :: L) _ (by rw [hD]; exact Less.refl _) ?_
   try dsimp only
   refine ⟨?_,?_,?_,?_⟩
   ·simp (dsimp:=false)(disch:=omega) only [go_sem,Φa,hP,h7_4,h7_5,h7_6,h7_7,h7_8,h7_10,h7_11,h7_24,h7_112]
   ·simp (dsimp:=false)(disch:=omega) only [go_sem,Φa,hP,h7_4,h7_5,h7_6,h7_7,h7_8,h7_10,h7_11,h7_24,h7_112]
   ·rw [hD]
   exact ⟨by rw [hD],by rw [hD]; exact hr.of skip_fields.1 skip_fields.2.1 skip_fields.2.2⟩
  clear hX34 hY34 X34 Y34
  refine SX.seq_k fun K35 hK35=>?_
  refine SX.region_d [some 120,some 119] rfl (fun ops hops=>?_)
  unfold Dsts at hops
  simp (dsimp:=false)(disch:=omega) only [go_sem,Φa,hP,h7_4,h7_5,h7_6,h7_7,h7_8,h7_10,h7_11,h7_24,h7_112,hops]
  repeat' ((first | refine And.intro (by omega) ?_ | fail); try refine stI ?_; try simp (dsimp:=false)(disch:=omega) only [go_sem,Φa,hP,h7_4,h7_5,h7_6,h7_7,h7_8,h7_10,h7_11,h7_24,h7_112,hops])
  refine hK35 _ _ ?_
  try clear hK35 K35
  refine SX.cond_k fun X36 Y36 hX36 hY36=>?_
  simp (dsimp:=false)(disch:=omega) only [go_sem,Φa,hP,h7_4,h7_5,h7_6,h7_7,h7_8,h7_10,h7_11,h7_24,h7_112,condVC]
  refine ⟨fun hc119=>hX36 ?_,fun hc119=>hY36 ?_⟩
  ·clear hX36 hY36 X36 Y36
   have hD : doG g o f d = (1,({ g with V := g.V.set o.x (o.b : Int) } : GM)) := by
    unfold doG
    rw [show o.op = 9 by omega]
    rfl
            
   refine SX.region_d [some 121,some 122,some 123,some 124,some 125,some 126,none] rfl (fun ops hops=>?_)
   unfold Dsts at hops
   simp (dsimp:=false)(disch:=omega) only [go_sem,Φa,hP,h7_4,h7_5,h7_6,h7_7,h7_8,h7_10,h7_11,h7_24,h7_112,hops]
   refine ⟨_,Cell.at 3 rfl (show (Ord.cells _)[1]? = _ from rfl),?_⟩
   try refine stI ?_
   try simp (dsimp:=false)(disch:=omega) only [go_sem,Φa,hP,h7_4,h7_5,h7_6,h7_7,h7_8,h7_10,h7_11,h7_24,h7_112,hops]
   refine ⟨_,Cell.at 3 rfl (show (Ord.cells _)[4]? = _ from rfl),?_⟩
   try refine stI ?_
   try simp (dsimp:=false)(disch:=omega) only [go_sem,Φa,hP,h7_4,h7_5,h7_6,h7_7,h7_8,h7_10,h7_11,h7_24,h7_112,hops]
   refine ⟨4,_,_,_,rfl,(by rw [gcells_length]; omega),.inr (Nat.zero_le _),?_⟩
   try refine stI ?_
   try simp (dsimp:=false)(disch:=omega) only [go_sem,Φa,hP,h7_4,h7_5,h7_6,h7_7,h7_8,h7_10,h7_11,h7_24,h7_112,hops]
   rw [gV_set hg.V hx]
   refine hK4 ((.slice A1 g.st.length c1),(.slice A2 g.pg.length c2),(.slice A3 g.mm.length c3),s1,s2,s3) _ (some (b8,.cells #[.int .u8 0,.int .u8 0,.int .u8 0,.int .u8 0,.int .u8 0,.int .u8 0,.int .u8 0,.int .u8 0,.int .u8 0,.int .u8 0,.int .u8 0,.int .u8 0,.int .u8 0,.int .u8 0,.int .u8 0,.int .u8 0,.int .u16 0,.int .u16 0,.slice none 0 0,.int .u8 0,.int .u8 0,.slice none 0 0,.slice none 0 0] 27 (0,0)) :: some (bd,.cells d.cells.toArray 38 (0,0)) :: some (bf,.cells (f.cells fv).toArray 30 (0,0)) :: some (bo,.cells o.cells.toArray 60 (0,0)) :: some (bg,.cells (GM.cells (doG g o f d).2 (.slice A1 g.st.length c1) (.slice A2 g.pg.length c2) (.slice A3 g.mm.length c3)).toArray 27 (0,0)) :: s1 :: s2 :: s3 :: L) _ (by rw [hD]; exact Less.refl _) ?_
   try dsimp only
   refine ⟨?_,?_,?_,?_⟩
   ·simp (dsimp:=false)(disch:=omega) only [go_sem,Φa,hP,h7_4,h7_5,h7_6,h7_7,h7_8,h7_10,h7_11,h7_24,h7_112]
   ·simp (dsimp:=false)(disch:=omega) only [go_sem,Φa,hP,h7_4,h7_5,h7_6,h7_7,h7_8,h7_10,h7_11,h7_24,h7_112]
   ·rw [hD]
   exact ⟨by rw [hD],by rw [hD]; exact hr.of rfl rfl rfl⟩
  clear hX36 hY36 X36 Y36
  refine SX.seq_k fun K37 hK37=>?_
  refine SX.region_d [some 128,some 127] rfl (fun ops hops=>?_)
  unfold Dsts at hops
  simp (dsimp:=false)(disch:=omega) only [go_sem,Φa,hP,h7_4,h7_5,h7_6,h7_7,h7_8,h7_10,h7_11,h7_24,h7_112,hops]
  repeat' ((first | refine And.intro (by omega) ?_ | fail); try refine stI ?_; try simp (dsimp:=false)(disch:=omega) only [go_sem,Φa,hP,h7_4,h7_5,h7_6,h7_7,h7_8,h7_10,h7_11,h7_24,h7_112,hops])
  refine hK37 _ _ ?_
  try clear hK37 K37
  refine SX.cond_k fun X38 Y38 hX38 hY38=>?_
  simp (dsimp:=false)(disch:=omega) only [go_sem,Φa,hP,h7_4,h7_5,h7_6,h7_7,h7_8,h7_10,h7_11,h7_24,h7_112,condVC]
  refine ⟨fun hc127=>hX38 ?_,fun hc127=>hY38 ?_⟩
  ·clear hX38 hY38 X38 Y38
   have hD : doG g o f d = (1,({ g with V := g.V.set o.x (IntKind.u8.wrap (vG g o.x + (o.b : Int))) } : GM)) := by
    unfold doG
    rw [show o.op = 10 by omega]
    rfl
             
   refine SX.region_d [some 129,some 130,some 131,some 132,some 133,some 134,some 135,some 136,none] rfl (fun ops hops=>?_)
   unfold Dsts at hops
   simp (dsimp:=false)(disch:=omega) only [go_sem,Φa,hP,h7_4,h7_5,h7_6,h7_7,h7_8,h7_10,h7_11,h7_24,h7_112,hops]
   refine ⟨_,Cell.at 3 rfl (show (Ord.cells _)[1]? = _ from rfl),?_⟩
   try refine stI ?_
   try simp (dsimp:=false)(disch:=omega) only [go_sem,Φa,hP,h7_4,h7_5,h7_6,h7_7,h7_8,h7_10,h7_11,h7_24,h7_112,hops]
   refine ⟨_,Cell.at 3 rfl (show (Ord.cells _)[4]? = _ from rfl),?_⟩
   try refine stI ?_
   try simp (dsimp:=false)(disch:=omega) only [go_sem,Φa,hP,h7_4,h7_5,h7_6,h7_7,h7_8,h7_10,h7_11,h7_24,h7_112,hops]
   refine ⟨4,_,_,_,rfl,(by rw [gcells_length]; omega),.inr (Nat.zero_le _),?_⟩
   try refine stI ?_
   try simp (dsimp:=false)(disch:=omega) only [go_sem,Φa,hP,h7_4,h7_5,h7_6,h7_7,h7_8,h7_10,h7_11,h7_24,h7_112,hops]
   rw [gV_set hg.V hx]
   refine hK4 ((.slice A1 g.st.length c1),(.slice A2 g.pg.length c2),(.slice A3 g.mm.length c3),s1,s2,s3) _ (some (b8,.cells #[.int .u8 0,.int .u8 0,.int .u8 0,.int .u8 0,.int .u8 0,.int .u8 0,.int .u8 0,.int .u8 0,.int .u8 0,.int .u8 0,.int .u8 0,.int .u8 0,.int .u8 0,.int .u8 0,.int .u8 0,.int .u8 0,.int .u16 0,.int .u16 0,.slice none 0 0,.int .u8 0,.int .u8 0,.slice none 0 0,.slice none 0 0] 27 (0,0)) :: some (bd,.cells d.cells.toArray 38 (0,0)) :: some (bf,.cells (f.cells fv).toArray 30 (0,0)) :: some (bo,.cells o.cells.toArray 60 (0,0)) :: some (bg,.cells (GM.cells (doG g o f d).2 (.slice A1 g.st.length c1) (.slice A2 g.pg.length c2) (.slice A3 g.mm.length c3)).toArray 27 (0,0)) :: s1 :: s2 :: s3 :: L) _ (by rw [hD]; exact Less.refl _) ?_
   try dsimp only
   refine ⟨?_,?_,?_,?_⟩
   ·simp (dsimp:=false)(disch:=omega) only [go_sem,Φa,hP,h7_4,h7_5,h7_6,h7_7,h7_8,h7_10,h7_11,h7_24,h7_112]
   ·simp (dsimp:=false)(disch:=omega) only [go_sem,Φa,hP,h7_4,h7_5,h7_6,h7_7,h7_8,h7_10,h7_11,h7_24,h7_112]
   ·rw [hD]
   exact ⟨by rw [hD],by rw [hD]; exact hr.of rfl rfl rfl⟩
  clear hX38 hY38 X38 Y38
  refine SX.seq_k fun K39 hK39=>?_
  refine SX.seq_k fun K40 hK40=>?_
  refine SX.region_d [some 138,some 137] rfl (fun ops hops=>?_)
  unfold Dsts at hops
  simp (dsimp:=false)(disch:=omega) only [go_sem,Φa,hP,h7_4,h7_5,h7_6,h7_7,h7_8,h7_10,h7_11,h7_24,h7_112,hops]
  repeat' ((first | refine And.intro (by omega) ?_ | fail); try refine stI ?_; try simp (dsimp:=false)(disch:=omega) only [go_sem,Φa,hP,h7_4,h7_5,h7_6,h7_7,h7_8,h7_10,h7_11,h7_24,h7_112,hops])
  refine hK40 _ _ ?_
  try clear hK40 K40
  refine SX.cond_k fun X41 Y41 hX41 hY41=>?_
  simp (dsimp:=false)(disch:=omega) only [go_sem,Φa,hP,h7_4,h7_5,h7_6,h7_7,h7_8,h7_10,h7_11,h7_24,h7_112,condVC]
  refine ⟨fun hc137=>hX41 ?_,fun hc137=>hY41 ?_⟩
  ·clear hX41 hY41 X41 Y41
   refine SX.skip ?_
   try simp only [andThen_normal,andThen_ret,andThen_exit,inBlk_normal,inBlk_ret,inBlk_exit,Nat.reduceEqDiff,if_true,if_false,↓reduceIte]
   refine hK39 _ _ ?_
   try clear hK39 K39
   refine SX.cond_k fun X42 Y42 hX42 hY42=>?_
   simp (dsimp:=false)(disch:=omega) only [go_sem,Φa,hP,h7_4,h7_5,h7_6,h7_7,h7_8,h7_10,h7_11,h7_24,h7_112,condVC]
   refine hX42 ?_
   clear hX42 hY42 X42 Y42
   have hS := sums_fields (g := g) (f := f) (d := d) (o := o) (by omega)
   refine SX.region_d [some 143,some 144,some 145,some 146,some 147,none] rfl (fun ops hops=>?_)
   unfold Dsts at hops
   simp (dsimp:=false)(disch:=omega) only [go_sem,Φa,hP,h7_4,h7_5,h7_6,h7_7,h7_8,h7_10,h7_11,h7_24,h7_112,hops]
   ((iterate 23 refine ⟨_,Cell.at 4 rfl rfl,?_⟩); rw [lit_g])
   try refine stI ?_
   try simp (dsimp:=false)(disch:=omega) only [go_sem,Φa,hP,h7_4,h7_5,h7_6,h7_7,h7_8,h7_10,h7_11,h7_24,h7_112,hops]
   (iterate 6 refine ⟨_,Cell.at 3 rfl rfl,?_⟩)
   try refine stI ?_
   try simp (dsimp:=false)(disch:=omega) only [go_sem,Φa,hP,h7_4,h7_5,h7_6,h7_7,h7_8,h7_10,h7_11,h7_24,h7_112,hops]
   refine SCall.mono (sums_spec (g := g) (o := o) (f := f) (d := d) hP ⟨_,_,_,rfl⟩ ⟨_,_,_,rfl⟩ ⟨_,_,_,rfl⟩ hg hx (by omega)) ?_
   rintro v_ L_ ⟨rfl,rfl⟩
   try refine stI ?_
   try simp (dsimp:=false)(disch:=omega) only [go_sem,Φa,hP,h7_4,h7_5,h7_6,h7_7,h7_8,h7_10,h7_11,h7_24,h7_112,hops]
   refine ⟨rfl,rfl,4,_,_,_,rfl,Nat.le_refl 23,.inr (Nat.zero_le 0),?_⟩
   try refine stI ?_
   try simp (dsimp:=false)(disch:=omega) only [go_sem,Φa,hP,h7_4,h7_5,h7_6,h7_7,h7_8,h7_10,h7_11,h7_24,h7_112,hops]
   rw [put_g rfl]
   refine hK4 ((.slice A1 g.st.length c1),(.slice A2 g.pg.length c2),(.slice A3 g.mm.length c3),s1,s2,s3) _ (some (b8,.cells #[.int .u8 0,.int .u8 0,.int .u8 0,.int .u8 0,.int .u8 0,.int .u8 0,.int .u8 0,.int .u8 0,.int .u8 0,.int .u8 0,.int .u8 0,.int .u8 0,.int .u8 0,.int .u8 0,.int .u8 0,.int .u8 0,.int .u16 0,.int .u16 0,.slice none 0 0,.int .u8 0,.int .u8 0,.slice none 0 0,.slice none 0 0] 27 (0,0)) :: some (bd,.cells d.cells.toArray 38 (0,0)) :: some (bf,.cells (f.cells fv).toArray 30 (0,0)) :: some (bo,.cells o.cells.toArray 60 (0,0)) :: some (bg,.cells (GM.cells (doG g o f d).2 (.slice A1 g.st.length c1) (.slice A2 g.pg.length c2) (.slice A3 g.mm.length c3)).toArray 27 (0,0)) :: s1 :: s2 :: s3 :: L) _ (by exact Less.refl _) ?_
   try dsimp only
   refine ⟨?_,?_,?_,?_⟩
   ·simp (dsimp:=false)(disch:=omega) only [go_sem,Φa,hP,h7_4,h7_5,h7_6,h7_7,h7_8,h7_10,h7_11,h7_24,h7_112]
   ·simp (dsimp:=false)(disch:=omega) only [go_sem,Φa,hP,h7_4,h7_5,h7_6,h7_7,h7_8,h7_10,h7_11,h7_24,h7_112]
   ·rfl
   exact ⟨hS.1,hr.of hS.2.1 hS.2.2.1 hS.2.2.2⟩
  clear hX41 hY41 X41 Y41
  refine SX.seq_k fun K43 hK43=>?_
  refine SX.region_d [some 139,some 137] rfl (fun ops hops=>?_)
  unfold Dsts at hops
  simp (dsimp:=false)(disch:=omega) only [go_sem,Φa,hP,h7_4,h7_5,h7_6,h7_7,h7_8,h7_10,h7_11,h7_24,h7_112,hops]
  repeat' ((first | refine And.intro (by omega) ?_ | fail); try refine stI ?_; try simp (dsimp:=false)(disch:=omega) only [go_sem,Φa,hP,h7_4,h7_5,h7_6,h7_7,h7_8,h7_10,h7_11,h7_24,h7_112,hops])
  refine hK43 _ _ ?_
  try clear hK43 K43
  refine SX.cond_k fun X44 Y44 hX44 hY44=>?_
  simp (dsimp:=false)(disch:=omega) only [go_sem,Φa,hP,h7_4,h7_5,h7_6,h7_7,h7_8,h7_10,h7_11,h7_24,h7_112,condVC]
  refine ⟨fun hc137=>hX44 ?_,fun hc137=>hY44 ?_⟩
  ·clear hX44 hY44 X44 Y44
   refine SX.skip ?_
   try simp only [andThen_normal,andThen_ret,andThen_exit,inBlk_normal,inBlk_ret,inBlk_exit,Nat.reduceEqDiff,if_true,if_false,↓reduceIte]
   refine hK39 _ _ ?_
   try clear hK39 K39
   refine SX.cond_k fun X45 Y45 hX45 hY45=>?_
   simp (dsimp:=false)(disch:=omega) only [go_sem,Φa,hP,h7_4,h7_5,h7_6,h7_7,h7_8,h7_10,h7_11,h7_24,h7_112,condVC]
   refine hX45 ?_
   clear hX45 hY45 X45 Y45
   have hS := sums_fields (g := g) (f := f) (d := d) (o := o) (by omega)
   refine SX.region_d [some 143,some 144,some 145,some 146,some 147,none] rfl (fun ops hops=>?_)
   unfold Dsts at hops
   simp (dsimp:=false)(disch:=omega) only [go_sem,Φa,hP,h7_4,h7_5,h7_6,h7_7,h7_8,h7_10,h7_11,h7_24,h7_112,hops]
   ((iterate 23 refine ⟨_,Cell.at 4 rfl rfl,?_⟩); rw [lit_g])
   try refine stI ?_
   try simp (dsimp:=false)(disch:=omega) only [go_sem,Φa,hP,h7_4,h7_5,h7_6,h7_7,h7_8,h7_10,h7_11,h7_24,h7_112,hops]
   (iterate 6 refine ⟨_,Cell.at 3 rfl rfl,?_⟩)
   try refine stI ?_
   try simp (dsimp:=false)(disch:=omega) only [go_sem,Φa,hP,h7_4,h7_5,h7_6,h7_7,h7_8,h7_10,h7_11,h7_24,h7_112,hops]
   refine SCall.mono (sums_spec (g := g) (o := o) (f := f) (d := d) hP ⟨_,_,_,rfl⟩ ⟨_,_,_,rfl⟩ ⟨_,_,_,rfl⟩ hg hx (by omega)) ?_
   rintro v_ L_ ⟨rfl,rfl⟩
   try refine stI ?_
   try simp (dsimp:=false)(disch:=omega) only [go_sem,Φa,hP,h7_4,h7_5,h7_6,h7_7,h7_8,h7_10,h7_11,h7_24,h7_112,hops]
   refine ⟨rfl,rfl,4,_,_,_,rfl,Nat.le_refl 23,.inr (Nat.zero_le 0),?_⟩
   try refine stI ?_
   try simp (dsimp:=false)(disch:=omega) only [go_sem,Φa,hP,h7_4,h7_5,h7_6,h7_7,h7_8,h7_10,h7_11,h7_24,h7_112,hops]
   rw [put_g rfl]
   refine hK4 ((.slice A1 g.st.length c1),(.slice A2 g.pg.length c2),(.slice A3 g.mm.length c3),s1,s2,s3) _ (some (b8,.cells #[.int .u8 0,.int .u8 0,.int .u8 0,.int .u8 0,.int .u8 0,.int .u8 0,.int .u8 0,.int .u8 0,.int .u8 0,.int .u8 0,.int .u8 0,.int .u8 0,.int .u8 0,.int .u8 0,.int .u8 0,.int .u8 0,.int .u16 0,.int .u16 0,.slice none 0 0,.int .u8 0,.int .u8 0,.slice none 0 0,.slice none 0 0] 27 (0,0)) :: some (bd,.cells d.cells.toArray 38 (0,0)) :: some (bf,.cells (f.cells fv).toArray 30 (0,0)) :: some (bo,.cells o.cells.toArray 60 (0,0)) :: some (bg,.cells (GM.cells (doG g o f d).2 (.slice A1 g.st.length c1) (.slice A2 g.pg.length c2) (.slice A3 g.mm.length c3)).toArray 27 (0,0)) :: s1 :: s2 :: s3 :: L) _ (by exact Less.refl _) ?_
   try dsimp only
   refine ⟨?_,?_,?_,?_⟩
   ·simp (dsimp:=false)(disch:=omega) only [go_sem,Φa,hP,h7_4,h7_5,h7_6,h7_7,h7_8,h7_10,h7_11,h7_24,h7_112]
   ·simp (dsimp:=false)(disch:=omega) only [go_sem,Φa,hP,h7_4,h7_5,h7_6,h7_7,h7_8,h7_10,h7_11,h7_24,h7_112]
   ·rfl
   exact ⟨hS.1,hr.of hS.2.1 hS.2.2.1 hS.2.2.2⟩
  clear hX44 hY44 X44 Y44
  refine SX.seq_k fun K46 hK46=>?_
  refine SX.region_d [some 140,some 137] rfl (fun ops hops=>?_)
  unfold Dsts at hops
  simp (dsimp:=false)(disch:=omega) only [go_sem,Φa,hP,h7_4,h7_5,h7_6,h7_7,h7_8,h7_10,h7_11,h7_24,h7_112,hops]
  repeat' ((first | refine And.intro (by omega) ?_ | fail); try refine stI ?_; try simp (dsimp:=false)(disch:=omega) only [go_sem,Φa,hP,h7_4,h7_5,h7_6,h7_7,h7_8,h7_10,h7_11,h7_24,h7_112,hops])
  refine hK46 _ _ ?_
  try clear hK46 K46
  refine SX.live [4,5,6,7,8,10,11,24,137] (fun T8 hT8=>?_)
  simp only [forall_mem_cons',forall_mem_nil',go_sem,Φa,hP,h7_4,h7_5,h7_6,h7_7,h7_8,h7_10,h7_11,h7_24,h7_112] at hT8
  obtain ⟨h8_4,h8_5,h8_6,h8_7,h8_8,h8_10,h8_11,h8_24,h8_137⟩ := hT8
  clear h7_4 h7_5 h7_6 h7_7 h7_8 h7_10 h7_11 h7_24 h7_112 T7
  refine SX.cond_k fun X47 Y47 hX47 hY47=>?_
  simp (dsimp:=false)(disch:=omega) only [go_sem,Φa,hP,h8_4,h8_5,h8_6,h8_7,h8_8,h8_10,h8_11,h8_24,h8_137,condVC]
  refine ⟨fun hc137=>hX47 ?_,fun hc137=>hY47 ?_⟩
  ·clear hX47 hY47 X47 Y47
   refine SX.skip ?_
   try simp only [andThen_normal,andThen_ret,andThen_exit,inBlk_normal,inBlk_ret,inBlk_exit,Nat.reduceEqDiff,if_true,if_false,↓reduceIte]
   refine hK39 _ _ ?_
   try clear hK39 K39
   refine SX.cond_k fun X48 Y48 hX48 hY48=>?_
   simp (dsimp:=false)(disch:=omega) only [go_sem,Φa,hP,h8_4,h8_5,h8_6,h8_7,h8_8,h8_10,h8_11,h8_24,h8_137,condVC]
   refine hX48 ?_
   clear hX48 hY48 X48 Y48
   have hS := sums_fields (g := g) (f := f) (d := d) (o := o) (by omega)
   refine SX.region_d [some 143,some 144,some 145,some 146,some 147,none] rfl (fun ops hops=>?_)
   unfold Dsts at hops
   simp (dsimp:=false)(disch:=omega) only [go_sem,Φa,hP,h8_4,h8_5,h8_6,h8_7,h8_8,h8_10,h8_11,h8_24,h8_137,hops]
   ((iterate 23 refine ⟨_,Cell.at 4 rfl rfl,?_⟩); rw [lit_g])
   try refine stI ?_
   try simp (dsimp:=false)(disch:=omega) only [go_sem,Φa,hP,h8_4,h8_5,h8_6,h8_7,h8_8,h8_10,h8_11,h8_24,h8_137,hops]
   (iterate 6 refine ⟨_,Cell.at 3 rfl rfl,?_⟩)
   try refine stI ?_
   try simp (dsimp:=false)(disch:=omega) only [go_sem,Φa,hP,h8_4,h8_5,h8_6,h8_7,h8_8,h8_10,h8_11,h8_24,h8_137,hops]
   refine SCall.mono (sums_spec (g := g) (o := o) (f := f) (d := d) hP ⟨_,_,_,rfl⟩ ⟨_,_,_,rfl⟩ ⟨_,_,_,rfl⟩ hg hx (by omega)) ?_
   rintro v_ L_ ⟨rfl,rfl⟩
   try refine stI ?_
   try simp (dsimp:=false)(disch:=omega) only [go_sem,Φa,hP,h8_4,h8_5,h8_6,h8_7,h8_8,h8_10,h8_11,h8_24,h8_137,hops]
   refine ⟨rfl,rfl,4,_,_,_,rfl,Nat.le_refl 23,.inr (Nat.zero_le 0),?_⟩
   try refine stI ?_
   try simp (dsimp:=false)(disch:=omega) only [go_sem,Φa,hP,h8_4,h8_5,h8_6,h8_7,h8_8,h8_10,h8_11,h8_24,h8_137,hops]
   rw [put_g rfl]
   refine hK4 ((.slice A1 g.st.length c1),(.slice A2 g.pg.length c2),(.slice A3 g.mm.length c3),s1,s2,s3) _ (some (b8,.cells #[.int .u8 0,.int .u8 0,.int .u8 0,.int .u8 0,.int .u8 0,.int .u8 0,.int .u8 0,.int .u8 0,.int .u8 0,.int .u8 0,.int .u8 0,.int .u8 0,.int .u8 0,.int .u8 0,.int .u8 0,.int .u8 0,.int .u16 0,.int .u16 0,.slice none 0 0,.int .u8 0,.int .u8 0,.slice none 0 0,.slice none 0 0] 27 (0,0)) :: some (bd,.cells d.cells.toArray 38 (0,0)) :: some (bf,.cells (f.cells fv).toArray 30 (0,0)) :: some (bo,.cells o.cells.toArray 60 (0,0)) :: some (bg,.cells (GM.cells (doG g o f d).2 (.slice A1 g.st.length c1) (.slice A2 g.pg.length c2) (.slice A3 g.mm.length c3)).toArray 27 (0,0)) :: s1 :: s2 :: s3 :: L) _ (by exact Less.refl _) ?_
   try dsimp only
   refine ⟨?_,?_,?_,?_⟩
   ·simp (dsimp:=false)(disch:=omega) only [go_sem,Φa,hP,h8_4,h8_5,h8_6,h8_7,h8_8,h8_10,h8_11,h8_24,h8_137]
   ·simp (dsimp:=false)(disch:=omega) only [go_sem,Φa,hP,h8_4,h8_5,h8_6,h8_7,h8_8,h8_10,h8_11,h8_24,h8_137]
   ·rfl
   exact ⟨hS.1,hr.of hS.2.1 hS.2.2.1 hS.2.2.2⟩
  clear hX47 hY47 X47 Y47
  refine SX.seq_k fun K49 hK49=>?_
  refine SX.region_d [some 141,some 137] rfl (fun ops hops=>?_)
  unfold Dsts at hops
  simp (dsimp:=false)(disch:=omega) only [go_sem,Φa,hP,h8_4,h8_5,h8_6,h8_7,h8_8,h8_10,h8_11,h8_24,h8_137,hops]
  repeat' ((first | refine And.intro (by omega) ?_ | fail); try refine stI ?_; try simp (dsimp:=false)(disch:=omega) only [go_sem,Φa,hP,h8_4,h8_5,h8_6,h8_7,h8_8,h8_10,h8_11,h8_24,h8_137,hops])
  refine hK49 _ _ ?_
  try clear hK49 K49
  refine SX.cond_k fun X50 Y50 hX50 hY50=>?_
  simp (dsimp:=false)(disch:=omega) only [go_sem,Φa,hP,h8_4,h8_5,h8_6,h8_7,h8_8,h8_10,h8_11,h8_24,h8_137,condVC]
  refine ⟨fun hc137=>hX50 ?_,fun hc137=>hY50 ?_⟩
  ·clear hX50 hY50 X50 Y50
   refine SX.skip ?_
   try simp only [andThen_normal,andThen_ret,andThen_exit,inBlk_normal,inBlk_ret,inBlk_exit,Nat.reduceEqDiff,if_true,if_false,↓reduceIte]
   refine hK39 _ _ ?_
   try clear hK39 K39
   refine SX.cond_k fun X51 Y51 hX51 hY51=>?_
   simp (dsimp:=false)(disch:=omega) only [go_sem,Φa,hP,h8_4,h8_5,h8_6,h8_7,h8_8,h8_10,h8_11,h8_24,h8_137,condVC]
   refine hX51 ?_
   clear hX51 hY51 X51 Y51
   have hS := sums_fields (g := g) (f := f) (d := d) (o := o) (by omega)
   refine SX.region_d [some 143,some 144,some 145,some 146,some 147,none] rfl (fun ops hops=>?_)
   unfold Dsts at hops
   simp (dsimp:=false)(disch:=omega) only [go_sem,Φa,hP,h8_4,h8_5,h8_6,h8_7,h8_8,h8_10,h8_11,h8_24,h8_137,hops]
   ((iterate 23 refine ⟨_,Cell.at 4 rfl rfl,?_⟩); rw [lit_g])
   try refine stI ?_
   try simp (dsimp:=false)(disch:=omega) only [go_sem,Φa,hP,h8_4,h8_5,h8_6,h8_7,h8_8,h8_10,h8_11,h8_24,h8_137,hops]
   (iterate 6 refine ⟨_,Cell.at 3 rfl rfl,?_⟩)
   try refine stI ?_
   try simp (dsimp:=false)(disch:=omega) only [go_sem,Φa,hP,h8_4,h8_5,h8_6,h8_7,h8_8,h8_10,h8_11,h8_24,h8_137,hops]
   refine SCall.mono (sums_spec (g := g) (o := o) (f := f) (d := d) hP ⟨_,_,_,rfl⟩ ⟨_,_,_,rfl⟩ ⟨_,_,_,rfl⟩ hg hx (by omega)) ?_
   rintro v_ L_ ⟨rfl,rfl⟩
   try refine stI ?_
   try simp (dsimp:=false)(disch:=omega) only [go_sem,Φa,hP,h8_4,h8_5,h8_6,h8_7,h8_8,h8_10,h8_11,h8_24,h8_137,hops]
   refine ⟨rfl,rfl,4,_,_,_,rfl,Nat.le_refl 23,.inr (Nat.zero_le 0),?_⟩
   try refine stI ?_
   try simp (dsimp:=false)(disch:=omega) only [go_sem,Φa,hP,h8_4,h8_5,h8_6,h8_7,h8_8,h8_10,h8_11,h8_24,h8_137,hops]
   rw [put_g rfl]
   refine hK4 ((.slice A1 g.st.length c1),(.slice A2 g.pg.length c2),(.slice A3 g.mm.length c3),s1,s2,s3) _ (some (b8,.cells #[.int .u8 0,.int .u8 0,.int .u8 0,.int .u8 0,.int .u8 0,.int .u8 0,.int .u8 0,.int .u8 0,.int .u8 0,.int .u8 0,.int .u8 0,.int .u8 0,.int .u8 0,.int .u8 0,.int .u8 0,.int .u8 0,.int .u16 0,.int .u16 0,.slice none 0 0,.int .u8 0,.int .u8 0,.slice none 0 0,.slice none 0 0] 27 (0,0)) :: some (bd,.cells d.cells.toArray 38 (0,0)) :: some (bf,.cells (f.cells fv).toArray 30 (0,0)) :: some (bo,.cells o.cells.toArray 60 (0,0)) :: some (bg,.cells (GM.cells (doG g o f d).2 (.slice A1 g.st.length c1) (.slice A2 g.pg.length c2) (.slice A3 g.mm.length c3)).toArray 27 (0,0)) :: s1 :: s2 :: s3 :: L) _ (by exact Less.refl _) ?_
   try dsimp only
   refine ⟨?_,?_,?_,?_⟩
   ·simp (dsimp:=false)(disch:=omega) only [go_sem,Φa,hP,h8_4,h8_5,h8_6,h8_7,h8_8,h8_10,h8_11,h8_24,h8_137]
   ·simp (dsimp:=false)(disch:=omega) only [go_sem,Φa,hP,h8_4,h8_5,h8_6,h8_7,h8_8,h8_10,h8_11,h8_24,h8_137]
   ·rfl
   exact ⟨hS.1,hr.of hS.2.1 hS.2.2.1 hS.2.2.2⟩
  clear hX50 hY50 X50 Y50
  refine SX.region_d [some 142,some 137] rfl (fun ops hops=>?_)
  unfold Dsts at hops
  simp (dsimp:=false)(disch:=omega) only [go_sem,Φa,hP,h8_4,h8_5,h8_6,h8_7,h8_8,h8_10,h8_11,h8_24,h8_137,hops]
  repeat' ((first | refine And.intro (by omega) ?_ | fail); try refine stI ?_; try simp (dsimp:=false)(disch:=omega) only [go_sem,Φa,hP,h8_4,h8_5,h8_6,h8_7,h8_8,h8_10,h8_11,h8_24,h8_137,hops])
  refine hK39 _ _ ?_
  try clear hK39 K39
  refine SX.cond_k fun X52 Y52 hX52 hY52=>?_
  simp (dsimp:=false)(disch:=omega) only [go_sem,Φa,hP,h8_4,h8_5,h8_6,h8_7,h8_8,h8_10,h8_11,h8_24,h8_137,condVC]
  refine ⟨fun hc137=>hX52 ?_,fun hc137=>hY52 ?_⟩
  ·clear hX52 hY52 X52 Y52
   have hS := sums_fields (g := g) (f := f) (d := d) (o := o) (by omega)
   refine SX.region_d [some 143,some 144,some 145,some 146,some 147,none] rfl (fun ops hops=>?_)
   unfold Dsts at hops
   simp (dsimp:=false)(disch:=omega) only [go_sem,Φa,hP,h8_4,h8_5,h8_6,h8_7,h8_8,h8_10,h8_11,h8_24,h8_137,hops]
   ((iterate 23 refine ⟨_,Cell.at 4 rfl rfl,?_⟩); rw [lit_g])
   try refine stI ?_
   try simp (dsimp:=false)(disch:=omega) only [go_sem,Φa,hP,h8_4,h8_5,h8_6,h8_7,h8_8,h8_10,h8_11,h8_24,h8_137,hops]
   (iterate 6 refine ⟨_,Cell.at 3 rfl rfl,?_⟩)
   try refine stI ?_
   try simp (dsimp:=false)(disch:=omega) only [go_sem,Φa,hP,h8_4,h8_5,h8_6,h8_7,h8_8,h8_10,h8_11,h8_24,h8_137,hops]
   refine SCall.mono (sums_spec (g := g) (o := o) (f := f) (d := d) hP ⟨_,_,_,rfl⟩ ⟨_,_,_,rfl⟩ ⟨_,_,_,rfl⟩ hg hx (by omega)) ?_
   rintro v_ L_ ⟨rfl,rfl⟩
   try refine stI ?_
   try simp (dsimp:=false)(disch:=omega) only [go_sem,Φa,hP,h8_4,h8_5,h8_6,h8_7,h8_8,h8_10,h8_11,h8_24,h8_137,hops]
   refine ⟨rfl,rfl,4,_,_,_,rfl,Nat.le_refl 23,.inr (Nat.zero_le 0),?_⟩
   try refine stI ?_
   try simp (dsimp:=false)(disch:=omega) only [go_sem,Φa,hP,h8_4,h8_5,h8_6,h8_7,h8_8,h8_10,h8_11,h8_24,h8_137,hops]
   rw [put_g rfl]
   refine hK4 ((.slice A1 g.st.length c1),(.slice A2 g.pg.length c2),(.slice A3 g.mm.length c3),s1,s2,s3) _ (some (b8,.cells #[.int .u8 0,.int .u8 0,.int .u8 0,.int .u8 0,.int .u8 0,.int .u8 0,.int .u8 0,.int .u8 0,.int .u8 0,.int .u8 0,.int .u8 0,.int .u8 0,.int .u8 0,.int .u8 0,.int .u8 0,.int .u8 0,.int .u16 0,.int .u16 0,.slice none 0 0,.int .u8 0,.int .u8 0,.slice none 0 0,.slice none 0 0] 27 (0,0)) :: some (bd,.cells d.cells.toArray 38 (0,0)) :: some (bf,.cells (f.cells fv).toArray 30 (0,0)) :: some (bo,.cells o.cells.toArray 60 (0,0)) :: some (bg,.cells (GM.cells (doG g o f d).2 (.slice A1 g.st.length c1) (.slice A2 g.pg.length c2) (.slice A3 g.mm.length c3)).toArray 27 (0,0)) :: s1 :: s2 :: s3 :: L) _ (by exact Less.refl _) ?_
   try dsimp only
   refine ⟨?_,?_,?_,?_⟩
   ·simp (dsimp:=false)(disch:=omega) only [go_sem,Φa,hP,h8_4,h8_5,h8_6,h8_7,h8_8,h8_10,h8_11,h8_24,h8_137]
   ·simp (dsimp:=false)(disch:=omega) only [go_sem,Φa,hP,h8_4,h8_5,h8_6,h8_7,h8_8,h8_10,h8_11,h8_24,h8_137]
   ·rfl
   exact ⟨hS.1,hr.of hS.2.1 hS.2.2.1 hS.2.2.2⟩
  clear hX52 hY52 X52 Y52
  refine SX.seq_k fun K53 hK53=>?_
  refine SX.region_d [some 149,some 148] rfl (fun ops hops=>?_)
  unfold Dsts at hops
  simp (dsimp:=false)(disch:=omega) only [go_sem,Φa,hP,h8_4,h8_5,h8_6,h8_7,h8_8,h8_10,h8_11,h8_24,h8_137,hops]
  repeat' ((first | refine And.intro (by omega) ?_ | fail); try refine stI ?_; try simp (dsimp:=false)(disch:=omega) only [go_sem,Φa,hP,h8_4,h8_5,h8_6,h8_7,h8_8,h8_10,h8_11,h8_24,h8_137,hops])
  refine hK53 _ _ ?_
  try clear hK53 K53
  refine SX.cond_k fun X54 Y54 hX54 hY54=>?_
  simp (dsimp:=false)(disch:=omega) only [go_sem,Φa,hP,h8_4,h8_5,h8_6,h8_7,h8_8,h8_10,h8_11,h8_24,h8_137,condVC]
  refine ⟨fun hc148=>hX54 ?_,fun hc148=>hY54 ?_⟩
  ·clear hX54 hY54 X54 Y54
   have hD : doG g o f d = (1,({ g with I := (o.a : Int) } : GM)) := by
    unfold doG
    rw [show o.op = 17 by omega]
    rfl
                   
   refine SX.region_d [some 150,some 151,some 152,none] rfl (fun ops hops=>?_)
   unfold Dsts at hops
   simp (dsimp:=false)(disch:=omega) only [go_sem,Φa,hP,h8_4,h8_5,h8_6,h8_7,h8_8,h8_10,h8_11,h8_24,h8_137,hops]
   refine ⟨_,Cell.at 3 rfl (show (Ord.cells _)[5]? = _ from rfl),?_⟩
   try refine stI ?_
   try simp (dsimp:=false)(disch:=omega) only [go_sem,Φa,hP,h8_4,h8_5,h8_6,h8_7,h8_8,h8_10,h8_11,h8_24,h8_137,hops]
   refine ⟨4,_,_,_,rfl,(by simp [GM.cells]),.inr (Nat.zero_le _),?_⟩
   try refine stI ?_
   try simp (dsimp:=false)(disch:=omega) only [go_sem,Φa,hP,h8_4,h8_5,h8_6,h8_7,h8_8,h8_10,h8_11,h8_24,h8_137,hops]
   rw [set_IG]
   refine hK4 ((.slice A1 g.st.length c1),(.slice A2 g.pg.length c2),(.slice A3 g.mm.length c3),s1,s2,s3) _ (some (b8,.cells #[.int .u8 0,.int .u8 0,.int .u8 0,.int .u8 0,.int .u8 0,.int .u8 0,.int .u8 0,.int .u8 0,.int .u8 0,.int .u8 0,.int .u8 0,.int .u8 0,.int .u8 0,.int .u8 0,.int .u8 0,.int .u8 0,.int .u16 0,.int .u16 0,.slice none 0 0,.int .u8 0,.int .u8 0,.slice none 0 0,.slice none 0 0] 27 (0,0)) :: some (bd,.cells d.cells.toArray 38 (0,0)) :: some (bf,.cells (f.cells fv).toArray 30 (0,0)) :: some (bo,.cells o.cells.toArray 60 (0,0)) :: some (bg,.cells (GM.cells (doG g o f d).2 (.slice A1 g.st.length c1) (.slice A2 g.pg.length c2) (.slice A3 g.mm.length c3)).toArray 27 (0,0)) :: s1 :: s2 :: s3 :: L) _ (by rw [hD]; exact Less.refl _) ?_
   try dsimp only
   refine ⟨?_,?_,?_,?_⟩
   ·simp (dsimp:=false)(disch:=omega) only [go_sem,Φa,hP,h8_4,h8_5,h8_6,h8_7,h8_8,h8_10,h8_11,h8_24,h8_137]
   ·simp (dsimp:=false)(disch:=omega) only [go_sem,Φa,hP,h8_4,h8_5,h8_6,h8_7,h8_8,h8_10,h8_11,h8_24,h8_137]
   ·rw [hD]
   exact ⟨by rw [hD],by rw [hD]; exact hr.of rfl rfl rfl⟩
  clear hX54 hY54 X54 Y54
  refine SX.seq_k fun K55 hK55=>?_
  refine SX.region_d [some 154,some 153] rfl (fun ops hops=>?_)
  unfold Dsts at hops
  simp (dsimp:=false)(disch:=omega) only [go_sem,Φa,hP,h8_4,h8_5,h8_6,h8_7,h8_8,h8_10,h8_11,h8_24,h8_137,hops]
  repeat' ((first | refine And.intro (by omega) ?_ | fail); try refine stI ?_; try simp (dsimp:=false)(disch:=omega) only [go_sem,Φa,hP,h8_4,h8_5,h8_6,h8_7,h8_8,h8_10,h8_11,h8_24,h8_137,hops])
  refine hK55 _ _ ?_
  try clear hK55 K55
  refine SX.cond_k fun X56 Y56 hX56 hY56=>?_
  simp (dsimp:=false)(disch:=omega) only [go_sem,Φa,hP,h8_4,h8_5,h8_6,h8_7,h8_8,h8_10,h8_11,h8_24,h8_137,condVC]
  refine ⟨fun hc153=>hX56 ?_,fun hc153=>hY56 ?_⟩
  ·clear hX56 hY56 X56 Y56
   have hD : doG g o f d = (1,({ g with V := g.V.set o.x (bits .and .u8 d.rnd (o.b : Int)) } : GM)) := by
    unfold doG
    rw [show o.op = 19 by omega]
    rfl
                    
   refine SX.region_d [some 155,some 156,some 157,some 158,some 159,some 160,some 161,some 162,some 163,none] rfl (fun ops hops=>?_)
   unfold Dsts at hops
   simp (dsimp:=false)(disch:=omega) only [go_sem,Φa,hP,h8_4,h8_5,h8_6,h8_7,h8_8,h8_10,h8_11,h8_24,h8_137,hops]
   refine ⟨_,Cell.at 3 rfl (show (Ord.cells _)[1]? = _ from rfl),?_⟩
   try refine stI ?_
   try simp (dsimp:=false)(disch:=omega) only [go_sem,Φa,hP,h8_4,h8_5,h8_6,h8_7,h8_8,h8_10,h8_11,h8_24,h8_137,hops]
   refine ⟨_,Cell.at 1 rfl (show (Feed.cells _)[0]? = _ from rfl),?_⟩
   try refine stI ?_
   try simp (dsimp:=false)(disch:=omega) only [go_sem,Φa,hP,h8_4,h8_5,h8_6,h8_7,h8_8,h8_10,h8_11,h8_24,h8_137,hops]
   refine ⟨_,Cell.at 3 rfl (show (Ord.cells _)[4]? = _ from rfl),?_⟩
   try refine stI ?_
   try simp (dsimp:=false)(disch:=omega) only [go_sem,Φa,hP,h8_4,h8_5,h8_6,h8_7,h8_8,h8_10,h8_11,h8_24,h8_137,hops]
   refine ⟨4,_,_,_,rfl,(by rw [gcells_length]; omega),.inr (Nat.zero_le _),?_⟩
   try refine stI ?_
   try simp (dsimp:=false)(disch:=omega) only [go_sem,Φa,hP,h8_4,h8_5,h8_6,h8_7,h8_8,h8_10,h8_11,h8_24,h8_137,hops]
   rw [gV_set hg.V hx]
   refine hK4 ((.slice A1 g.st.length c1),(.slice A2 g.pg.length c2),(.slice A3 g.mm.length c3),s1,s2,s3) _ (some (b8,.cells #[.int .u8 0,.int .u8 0,.int .u8 0,.int .u8 0,.int .u8 0,.int .u8 0,.int .u8 0,.int .u8 0,.int .u8 0,.int .u8 0,.int .u8 0,.int .u8 0,.int .u8 0,.int .u8 0,.int .u8 0,.int .u8 0,.int .u16 0,.int .u16 0,.slice none 0 0,.int .u8 0,.int .u8 0,.slice none 0 0,.slice none 0 0] 27 (0,0)) :: some (bd,.cells d.cells.toArray 38 (0,0)) :: some (bf,.cells (f.cells fv).toArray 30 (0,0)) :: some (bo,.cells o.cells.toArray 60 (0,0)) :: some (bg,.cells (GM.cells (doG g o f d).2 (.slice A1 g.st.length c1) (.slice A2 g.pg.length c2) (.slice A3 g.mm.length c3)).toArray 27 (0,0)) :: s1 :: s2 :: s3 :: L) _ (by rw [hD]; exact Less.refl _) ?_
   try dsimp only
   refine ⟨?_,?_,?_,?_⟩
   ·simp (dsimp:=false)(disch:=omega) only [go_sem,Φa,hP,h8_4,h8_5,h8_6,h8_7,h8_8,h8_10,h8_11,h8_24,h8_137]
   ·simp (dsimp:=false)(disch:=omega) only [go_sem,Φa,hP,h8_4,h8_5,h8_6,h8_7,h8_8,h8_10,h8_11,h8_24,h8_137]
   ·rw [hD]
   exact ⟨by rw [hD],by rw [hD]; exact hr.of rfl rfl rfl⟩
  clear hX56 hY56 X56 Y56
  refine SX.seq_k fun K57 hK57=>?_
  refine SX.region_d [some 165,some 164] rfl (fun ops hops=>?_)
  unfold Dsts at hops
  simp (dsimp:=false)(disch:=omega) only [go_sem,Φa,hP,h8_4,h8_5,h8_6,h8_7,h8_8,h8_10,h8_11,h8_24,h8_137,hops]
  repeat' ((first | refine And.intro (by omega) ?_ | fail); try refine stI ?_; try simp (dsimp:=false)(disch:=omega) only [go_sem,Φa,hP,h8_4,h8_5,h8_6,h8_7,h8_8,h8_10,h8_11,h8_24,h8_137,hops])
  refine hK57 _ _ ?_
  try clear hK57 K57
  refine SX.live [4,5,6,7,8,10,11,24,164] (fun T9 hT9=>?_)
  simp only [forall_mem_cons',forall_mem_nil',go_sem,Φa,hP,h8_4,h8_5,h8_6,h8_7,h8_8,h8_10,h8_11,h8_24,h8_137] at hT9
  obtain ⟨h9_4,h9_5,h9_6,h9_7,h9_8,h9_10,h9_11,h9_24,h9_164⟩ := hT9
  clear h8_4 h8_5 h8_6 h8_7 h8_8 h8_10 h8_11 h8_24 h8_137 T8
  refine SX.cond_k fun X58 Y58 hX58 hY58=>?_
  simp (dsimp:=false)(disch:=omega) only [go_sem,Φa,hP,h9_4,h9_5,h9_6,h9_7,h9_8,h9_10,h9_11,h9_24,h9_164,condVC]
  refine ⟨fun hc164=>hX58 ?_,fun hc164=>hY58 ?_⟩
  ·clear hX58 hY58 X58 Y58
   refine SX.seq_k fun K59 hK59=>?_
   refine SX.region_d [some 166,some 167,some 168,some 169,some 170,some 171,some 172,some 173,none,some 9] rfl (fun ops hops=>?_)
   unfold Dsts at hops
   simp (dsimp:=false)(disch:=omega) only [go_sem,Φa,hP,h9_4,h9_5,h9_6,h9_7,h9_8,h9_10,h9_11,h9_24,h9_164,hops]
   ((iterate 23 refine ⟨_,Cell.at 4 rfl rfl,?_⟩); rw [lit_g])
   try refine stI ?_
   try simp (dsimp:=false)(disch:=omega) only [go_sem,Φa,hP,h9_4,h9_5,h9_6,h9_7,h9_8,h9_10,h9_11,h9_24,h9_164,hops]
   (iterate 6 refine ⟨_,Cell.at 3 rfl rfl,?_⟩)
   try refine stI ?_
   try simp (dsimp:=false)(disch:=omega) only [go_sem,Φa,hP,h9_4,h9_5,h9_6,h9_7,h9_8,h9_10,h9_11,h9_24,h9_164,hops]
   (iterate 18 refine ⟨_,Cell.at 2 rfl rfl,?_⟩)
   try refine stI ?_
   try simp (dsimp:=false)(disch:=omega) only [go_sem,Φa,hP,h9_4,h9_5,h9_6,h9_7,h9_8,h9_10,h9_11,h9_24,h9_164,hops]
   refine SCall.mono (SCall.of_less lessFive (refdraw_spec (L := _ :: _ :: _ :: _ :: _ :: L) hP hr hg hfo (SlI.cons _ (SlI.cons _ (SlI.cons _ (SlI.cons _ (SlI.cons _ hf))))) hml hpl hfl hn hx hy)) ?_
   rintro v_ L_ ⟨g9,sv9,pv9,mv9,t1,t2,t3,rfl,rfl,hr9,h9⟩
   obtain ⟨A7,c7,hv7,_,_⟩ := Row.form hr9.st
   obtain ⟨A8,c8,hv8,_,_⟩ := Row.form hr9.pg
   obtain ⟨A9,c9,hv9,_,_⟩ := Row.form hr9.mm
   subst hv7 hv8 hv9
   try refine stI ?_
   try simp (dsimp:=false)(disch:=omega) only [go_sem,Φa,hP,h9_4,h9_5,h9_6,h9_7,h9_8,h9_10,h9_11,h9_24,h9_164,hops]
   refine ⟨rfl,rfl,3,_,_,_,rfl,Nat.le_refl 23,.inr (Nat.zero_le 0),?_⟩
   try refine stI ?_
   try simp (dsimp:=false)(disch:=omega) only [go_sem,Φa,hP,h9_4,h9_5,h9_6,h9_7,h9_8,h9_10,h9_11,h9_24,h9_164,hops]
   rw [put_g rfl]
   refine hK59 _ _ ?_
   try clear hK59 K59
   refine SX.ret ?_
   simp only [andThen_normal,andThen_ret,andThen_exit,inBlk_normal,inBlk_ret,inBlk_exit,Nat.reduceEqDiff,if_true,if_false,↓reduceIte,retQ_ret]
   try simp only [res0,res1,res2,res3,stK_e,resX,resK,oneOr,ld_ptr,loadVC,loadN,List.nil_append,List.cons_append,Nat.reduceAdd,Nat.add_zero,Nat.zero_add,Addr.add_lit,Addr.add_zero',add_addS,T.elA_27,T.lay_27,T.szA_27,T.zr_27,Tryz.underlying27,go_sem,Φa,hP,h9_4,h9_5,h9_6,h9_7,h9_8,h9_10,h9_11,h9_24,h9_164]
   refine ⟨_,_,lessFive',⟨_,Cell.at 3 rfl rfl,_,Cell.at 3 rfl rfl,_,Cell.at 3 rfl rfl,_,Cell.at 3 rfl rfl,_,Cell.at 3 rfl rfl,_,Cell.at 3 rfl rfl,_,Cell.at 3 rfl rfl,_,Cell.at 3 rfl rfl,_,Cell.at 3 rfl rfl,_,Cell.at 3 rfl rfl,_,Cell.at 3 rfl rfl,_,Cell.at 3 rfl rfl,_,Cell.at 3 rfl rfl,_,Cell.at 3 rfl rfl,_,Cell.at 3 rfl rfl,_,Cell.at 3 rfl rfl,_,Cell.at 3 rfl rfl,_,Cell.at 3 rfl rfl,_,Cell.at 3 rfl rfl,_,Cell.at 3 rfl rfl,_,Cell.at 3 rfl rfl,_,Cell.at 3 rfl rfl,_,Cell.at 3 rfl rfl,rfl⟩,?_⟩
   have hD : doG g o f d = drawG g o f := by
    unfold doG
    rw [show o.op = 20 by omega]
    rfl
   rw [hD]
   exact ⟨g9,_,_,_,t1,t2,t3,rfl,rfl,hr9,h9⟩
  clear hX58 hY58 X58 Y58
  refine SX.seq_k fun K60 hK60=>?_
  refine SX.region_d [some 175,some 174] rfl (fun ops hops=>?_)
  unfold Dsts at hops
  simp (dsimp:=false)(disch:=omega) only [go_sem,Φa,hP,h9_4,h9_5,h9_6,h9_7,h9_8,h9_10,h9_11,h9_24,h9_164,hops]
  repeat' ((first | refine And.intro (by omega) ?_ | fail); try refine stI ?_; try simp (dsimp:=false)(disch:=omega) only [go_sem,Φa,hP,h9_4,h9_5,h9_6,h9_7,h9_8,h9_10,h9_11,h9_24,h9_164,hops])
  refine hK60 _ _ ?_
  try clear hK60 K60
  refine SX.cond_k fun X61 Y61 hX61 hY61=>?_
  simp (dsimp:=false)(disch:=omega) only [go_sem,Φa,hP,h9_4,h9_5,h9_6,h9_7,h9_8,h9_10,h9_11,h9_24,h9_164,condVC]
  refine ⟨fun hc174=>hX61 ?_,fun hc174=>hY61 ?_⟩
  ·clear hX61 hY61 X61 Y61
   have hD : doG g o f d = (1,(skipG g (downG g o d)).2) := by
    unfold doG
    rw [show o.op = 21 by omega]
    rfl
   have hm16 : (vG g o.x).tmod 16 = vG g o.x % 16 := Int.tmod_eq_emod_of_nonneg hbx.1
   refine SX.region_d [some 176,some 177,some 178,some 179,some 180,some 181,some 182,some 183,some 184,none] rfl (fun ops hops=>?_)
   unfold Dsts at hops
   simp (dsimp:=false)(disch:=omega) only [go_sem,Φa,hP,h9_4,h9_5,h9_6,h9_7,h9_8,h9_10,h9_11,h9_24,h9_164,hops,hm16]
   ((iterate 23 refine ⟨_,Cell.at 4 rfl rfl,?_⟩); rw [lit_g])
   try refine stI ?_
   try simp (dsimp:=false)(disch:=omega) only [go_sem,Φa,hP,h9_4,h9_5,h9_6,h9_7,h9_8,h9_10,h9_11,h9_24,h9_164,hops,hm16]
   refine ⟨_,Cell.at 1 rfl (show (Feed.cells _)[1]? = _ from rfl),?_⟩
   try refine stI ?_
   try simp (dsimp:=false)(disch:=omega) only [go_sem,Φa,hP,h9_4,h9_5,h9_6,h9_7,h9_8,h9_10,h9_11,h9_24,h9_164,hops,hm16]
   refine SCall.mono (skipped_spec (g := g) (b := downG g o d) hP ⟨_,_,_,rfl⟩ ⟨_,_,_,rfl⟩ ⟨_,_,_,rfl⟩) ?_
   rintro v_ L_ ⟨rfl,rfl⟩
   try refine stI ?_
   try simp (dsimp:=false)(disch:=omega) only [go_sem,Φa,hP,h9_4,h9_5,h9_6,h9_7,h9_8,h9_10,h9_11,h9_24,h9_164,hops,hm16]
   refine ⟨rfl,rfl,4,_,_,_,rfl,Nat.le_refl 23,.inr (Nat.zero_le 0),?_⟩
   try refine stI ?_
   try simp (dsimp:=false)(disch:=omega) only [go_sem,Φa,hP,h9_4,h9_5,h9_6,h9_7,h9_8,h9_10,h9_11,h9_24,h9_164,hops,hm16]
   rw [put_g rfl]
   refine hK4 ((.slice A1 g.st.length c1),(.slice A2 g.pg.length c2),(.slice A3 g.mm.length c3),s1,s2,s3) _ (some (b8,.cells #[.int .u8 0,.int .u8 0,.int .u8 0,.int .u8 0,.int .u8 0,.int .u8 0,.int .u8 0,.int .u8 0,.int .u8 0,.int .u8 0,.int .u8 0,.int .u8 0,.int .u8 0,.int .u8 0,.int .u8 0,.int .u8 0,.int .u16 0,.int .u16 0,.slice none 0 0,.int .u8 0,.int .u8 0,.slice none 0 0,.slice none 0 0] 27 (0,0)) :: some (bd,.cells d.cells.toArray 38 (0,0)) :: some (bf,.cells (f.cells fv).toArray 30 (0,0)) :: some (bo,.cells o.cells.toArray 60 (0,0)) :: some (bg,.cells (GM.cells (doG g o f d).2 (.slice A1 g.st.length c1) (.slice A2 g.pg.length c2) (.slice A3 g.mm.length c3)).toArray 27 (0,0)) :: s1 :: s2 :: s3 :: L) _ (by rw [hD]; exact Less.refl _) ?_
   try dsimp only
   refine ⟨?_,?_,?_,?_⟩
   ·simp (dsimp:=false)(disch:=omega) only [go_sem,Φa,hP,h9_4,h9_5,h9_6,h9_7,h9_8,h9_10,h9_11,h9_24,h9_164]
   ·simp (dsimp:=false)(disch:=omega) only [go_sem,Φa,hP,h9_4,h9_5,h9_6,h9_7,h9_8,h9_10,h9_11,h9_24,h9_164]
   ·rw [hD]
   exact ⟨by rw [hD],by rw [hD]; exact hr.of skip_fields.1 skip_fields.2.1 skip_fields.2.2⟩
  clear hX61 hY61 X61 Y61
  refine SX.seq_k fun K62 hK62=>?_
  refine SX.region_d [some 186,some 185] rfl (fun ops hops=>?_)
  unfold Dsts at hops
  simp (dsimp:=false)(disch:=omega) only [go_sem,Φa,hP,h9_4,h9_5,h9_6,h9_7,h9_8,h9_10,h9_11,h9_24,h9_164,hops]
  repeat' ((first | refine And.intro (by omega) ?_ | fail); try refine stI ?_; try simp (dsimp:=false)(disch:=omega) only [go_sem,Φa,hP,h9_4,h9_5,h9_6,h9_7,h9_8,h9_10,h9_11,h9_24,h9_164,hops])
  refine hK62 _ _ ?_
  try clear hK62 K62
  refine SX.cond_k fun X63 Y63 hX63 hY63=>?_
  simp (dsimp:=false)(disch:=omega) only [go_sem,Φa,hP,h9_4,h9_5,h9_6,h9_7,h9_8,h9_10,h9_11,h9_24,h9_164,condVC]
  refine ⟨fun hc185=>hX63 ?_,fun hc185=>hY63 ?_⟩
  ·clear hX63 hY63 X63 Y63
   have hD : doG g o f d = (1,(skipG g (!downG g o d)).2) := by
    unfold doG
    rw [show o.op = 22 by omega]
    rfl
   have hm16 : (vG g o.x).tmod 16 = vG g o.x % 16 := Int.tmod_eq_emod_of_nonneg hbx.1
   refine SX.region_d [some 187,some 188,some 189,some 190,some 191,some 192,some 193,some 194,some 195,none] rfl (fun ops hops=>?_)
   unfold Dsts at hops
   simp (dsimp:=false)(disch:=omega) only [go_sem,Φa,hP,h9_4,h9_5,h9_6,h9_7,h9_8,h9_10,h9_11,h9_24,h9_164,hops,hm16]
   ((iterate 23 refine ⟨_,Cell.at 4 rfl rfl,?_⟩); rw [lit_g])
   try refine stI ?_
   try simp (dsimp:=false)(disch:=omega) only [go_sem,Φa,hP,h9_4,h9_5,h9_6,h9_7,h9_8,h9_10,h9_11,h9_24,h9_164,hops,hm16]
   refine ⟨_,Cell.at 1 rfl (show (Feed.cells _)[1]? = _ from rfl),?_⟩
   try refine stI ?_
   try simp (dsimp:=false)(disch:=omega) only [go_sem,Φa,hP,h9_4,h9_5,h9_6,h9_7,h9_8,h9_10,h9_11,h9_24,h9_164,hops,hm16]
   rw [down_not (g := g) (o := o) hkb]
   refine SCall.mono (skipped_spec (g := g) (b := !downG g o d) hP ⟨_,_,_,rfl⟩ ⟨_,_,_,rfl⟩ ⟨_,_,_,rfl⟩) ?_
   rintro v_ L_ ⟨rfl,rfl⟩
   try refine stI ?_
   try simp (dsimp:=false)(disch:=omega) only [go_sem,Φa,hP,h9_4,h9_5,h9_6,h9_7,h9_8,h9_10,h9_11,h9_24,h9_164,hops,hm16]
   refine ⟨rfl,rfl,4,_,_,_,rfl,Nat.le_refl 23,.inr (Nat.zero_le 0),?_⟩
   try refine stI ?_
   try simp (dsimp:=false)(disch:=omega) only [go_sem,Φa,hP,h9_4,h9_5,h9_6,h9_7,h9_8,h9_10,h9_11,h9_24,h9_164,hops,hm16]
   rw [put_g rfl]
   refine hK4 ((.slice A1 g.st.length c1),(.slice A2 g.pg.length c2),(.slice A3 g.mm.length c3),s1,s2,s3) _ (some (b8,.cells #[.int .u8 0,.int .u8 0,.int .u8 0,.int .u8 0,.int .u8 0,.int .u8 0,.int .u8 0,.int .u8 0,.int .u8 0,.int .u8 0,.int .u8 0,.int .u8 0,.int .u8 0,.int .u8 0,.int .u8 0,.int .u8 0,.int .u16 0,.int .u16 0,.slice none 0 0,.int .u8 0,.int .u8 0,.slice none 0 0,.slice none 0 0] 27 (0,0)) :: some (bd,.cells d.cells.toArray 38 (0,0)) :: some (bf,.cells (f.cells fv).toArray 30 (0,0)) :: some (bo,.cells o.cells.toArray 60 (0,0)) :: some (bg,.cells (GM.cells (doG g o f d).2 (.slice A1 g.st.length c1) (.slice A2 g.pg.length c2) (.slice A3 g.mm.length c3)).toArray 27 (0,0)) :: s1 :: s2 :: s3 :: L) _ (by rw [hD]; exact Less.refl _) ?_
   try dsimp only
   refine ⟨?_,?_,?_,?_⟩
   ·simp (dsimp:=false)(disch:=omega) only [go_sem,Φa,hP,h9_4,h9_5,h9_6,h9_7,h9_8,h9_10,h9_11,h9_24,h9_164]
   ·simp (dsimp:=false)(disch:=omega) only [go_sem,Φa,hP,h9_4,h9_5,h9_6,h9_7,h9_8,h9_10,h9_11,h9_24,h9_164]
   ·rw [hD]
   exact ⟨by rw [hD],by rw [hD]; exact hr.of skip_fields.1 skip_fields.2.1 skip_fields.2.2⟩
  clear hX63 hY63 X63 Y63
  refine SX.seq_k fun K64 hK64=>?_
  refine SX.region_d [some 25,some 26,some 27,some 28,some 29,some 30,some 31,none,some 9] rfl (fun ops hops=>?_)
  unfold Dsts at hops
  simp (dsimp:=false)(disch:=omega) only [go_sem,Φa,hP,h9_4,h9_5,h9_6,h9_7,h9_8,h9_10,h9_11,h9_24,h9_164,hops]
  ((iterate 23 refine ⟨_,Cell.at 4 rfl rfl,?_⟩); rw [lit_g])
  try refine stI ?_
  try simp (dsimp:=false)(disch:=omega) only [go_sem,Φa,hP,h9_4,h9_5,h9_6,h9_7,h9_8,h9_10,h9_11,h9_24,h9_164,hops]
  (iterate 6 refine ⟨_,Cell.at 3 rfl rfl,?_⟩)
  try refine stI ?_
  try simp (dsimp:=false)(disch:=omega) only [go_sem,Φa,hP,h9_4,h9_5,h9_6,h9_7,h9_8,h9_10,h9_11,h9_24,h9_164,hops]
  (iterate 18 refine ⟨_,Cell.at 2 rfl rfl,?_⟩)
  try refine stI ?_
  try simp (dsimp:=false)(disch:=omega) only [go_sem,Φa,hP,h9_4,h9_5,h9_6,h9_7,h9_8,h9_10,h9_11,h9_24,h9_164,hops]
  (iterate 3 refine ⟨_,Cell.at 1 rfl rfl,?_⟩)
  try refine stI ?_
  try simp (dsimp:=false)(disch:=omega) only [go_sem,Φa,hP,h9_4,h9_5,h9_6,h9_7,h9_8,h9_10,h9_11,h9_24,h9_164,hops]
  refine SCall.mono (SCall.of_less lessFive (others_spec (L := _ :: _ :: _ :: _ :: _ :: L) hP hr hg hfo (SlI.cons _ (SlI.cons _ (SlI.cons _ (SlI.cons _ (SlI.cons _ hf))))) hml hfl hx (by omega))) ?_
  rintro v_ L_ ⟨g9,sv9,pv9,mv9,t1,t2,t3,rfl,rfl,hr9,h9⟩
  obtain ⟨A7,c7,hv7,_,_⟩ := Row.form hr9.st
  obtain ⟨A8,c8,hv8,_,_⟩ := Row.form hr9.pg
  obtain ⟨A9,c9,hv9,_,_⟩ := Row.form hr9.mm
  subst hv7 hv8 hv9
  try refine stI ?_
  try simp (dsimp:=false)(disch:=omega) only [go_sem,Φa,hP,h9_4,h9_5,h9_6,h9_7,h9_8,h9_10,h9_11,h9_24,h9_164,hops]
  refine ⟨rfl,rfl,3,_,_,_,rfl,Nat.le_refl 23,.inr (Nat.zero_le 0),?_⟩
  try refine stI ?_
  try simp (dsimp:=false)(disch:=omega) only [go_sem,Φa,hP,h9_4,h9_5,h9_6,h9_7,h9_8,h9_10,h9_11,h9_24,h9_164,hops]
  rw [put_g rfl]
  refine hK64 _ _ ?_
  try clear hK64 K64
  refine SX.ret ?_
  simp only [andThen_normal,andThen_ret,andThen_exit,inBlk_normal,inBlk_ret,inBlk_exit,Nat.reduceEqDiff,if_true,if_false,↓reduceIte,retQ_ret]
  try simp only [res0,res1,res2,res3,stK_e,resX,resK,oneOr,ld_ptr,loadVC,loadN,List.nil_append,List.cons_append,Nat.reduceAdd,Nat.add_zero,Nat.zero_add,Addr.add_lit,Addr.add_zero',add_addS,T.elA_27,T.lay_27,T.szA_27,T.zr_27,Tryz.underlying27,go_sem,Φa,hP,h9_4,h9_5,h9_6,h9_7,h9_8,h9_10,h9_11,h9_24,h9_164]
  refine ⟨_,_,lessFive',⟨_,Cell.at 3 rfl rfl,_,Cell.at 3 rfl rfl,_,Cell.at 3 rfl rfl,_,Cell.at 3 rfl rfl,_,Cell.at 3 rfl rfl,_,Cell.at 3 rfl rfl,_,Cell.at 3 rfl rfl,_,Cell.at 3 rfl rfl,_,Cell.at 3 rfl rfl,_,Cell.at 3 rfl rfl,_,Cell.at 3 rfl rfl,_,Cell.at 3 rfl rfl,_,Cell.at 3 rfl rfl,_,Cell.at 3 rfl rfl,_,Cell.at 3 rfl rfl,_,Cell.at 3 rfl rfl,_,Cell.at 3 rfl rfl,_,Cell.at 3 rfl rfl,_,Cell.at 3 rfl rfl,_,Cell.at 3 rfl rfl,_,Cell.at 3 rfl rfl,_,Cell.at 3 rfl rfl,_,Cell.at 3 rfl rfl,rfl⟩,?_⟩
  exact ⟨g9,_,_,_,t1,t2,t3,rfl,rfl,hr9,h9⟩
 intro ss T10 L10 hI
 obtain ⟨sv',pv',mv',q1,q2,q3⟩ := ss
 try dsimp only at hI 
 simp only [h2_4,h2_8] at hI 
 obtain ⟨h10_4,h10_8,hL10,⟨hD1,hR⟩⟩ := hI
 replace hL10 := hL10.symm
 subst hL10
 clear h2_4 h2_5 h2_6 h2_7 h2_8 h2_10 h2_11 T2
 refine SX.seq_k fun K65 hK65=>?_
 obtain ⟨A1',c1',hv1,_,_⟩ := Row.form hR.st
 obtain ⟨A2',c2',hv2,_,_⟩ := Row.form hR.pg
 obtain ⟨A3',c3',hv3,_,_⟩ := Row.form hR.mm
 subst hv1 hv2 hv3
 refine SX.region_d [some 196,none,some 9] rfl (fun ops hops=>?_)
 unfold Dsts at hops
 simp (dsimp:=false)(disch:=omega) only [go_sem,Φa,hP,h10_4,h10_8,hops]
 (iterate 23 refine ⟨_,Cell.at 4 rfl rfl,?_⟩)
 try refine stI ?_
 try simp (dsimp:=false)(disch:=omega) only [go_sem,Φa,hP,h10_4,h10_8,hops]
 refine ⟨0,_,_,_,rfl,(by decide),.inr (by decide),?_⟩
 try refine stI ?_
 try simp (dsimp:=false)(disch:=omega) only [go_sem,Φa,hP,h10_4,h10_8,hops]
 refine hK65 _ _ ?_
 try clear hK65 K65
 refine SX.ret ?_
 simp only [andThen_normal,andThen_ret,andThen_exit,inBlk_normal,inBlk_ret,inBlk_exit,Nat.reduceEqDiff,if_true,if_false,↓reduceIte,retQ_ret]
 try simp only [res0,res1,res2,res3,stK_e,resX,resK,oneOr,ld_ptr,loadVC,loadN,List.nil_append,List.cons_append,Nat.reduceAdd,Nat.add_zero,Nat.zero_add,Addr.add_lit,Addr.add_zero',add_addS,T.elA_27,T.lay_27,T.szA_27,T.zr_27,Tryz.underlying27,go_sem,Φa,hP,h10_4,h10_8]
 refine ⟨_,_,less5d,⟨_,Cell.at 0 rfl rfl,_,Cell.at 0 rfl rfl,_,Cell.at 0 rfl rfl,_,Cell.at 0 rfl rfl,_,Cell.at 0 rfl rfl,_,Cell.at 0 rfl rfl,_,Cell.at 0 rfl rfl,_,Cell.at 0 rfl rfl,_,Cell.at 0 rfl rfl,_,Cell.at 0 rfl rfl,_,Cell.at 0 rfl rfl,_,Cell.at 0 rfl rfl,_,Cell.at 0 rfl rfl,_,Cell.at 0 rfl rfl,_,Cell.at 0 rfl rfl,_,Cell.at 0 rfl rfl,_,Cell.at 0 rfl rfl,_,Cell.at 0 rfl rfl,_,Cell.at 0 rfl rfl,_,Cell.at 0 rfl rfl,_,Cell.at 0 rfl rfl,_,Cell.at 0 rfl rfl,_,Cell.at 0 rfl rfl,rfl⟩,?_⟩
 exact ⟨(doG g o f d).2,_,_,_,_,_,_,by rw [hD1]; rfl,rfl,hR,fun _=>rfl⟩

end Go.Proofs.YtgioegdjeodpiaaGreat
namespace Go.Proofs.YtgioegdjeodpiaaGreat
open Go.RowKit Go.SX
open Go.SX renaming ia_someH → Φa
set_option maxHeartbeats 1000000 in
set_option maxRecDepth 100000 in
theorem refNext_spec {Γ : Ctx} (hP : Γ.P = Tryz.prog) {L : Hp} {g : GM} {sv pv mv : Value} (hg : OkG g) (hs : SlI .u16 (Cell Γ L) sv g.st) (hp : SlI .u8 (Cell Γ L) pv g.pg) (hm : SlI .u8 (Cell Γ L) mv g.mm) (hsl : g.st.length ≤ 2147483647) (hpl : g.pg.length ≤ 2147483647) (hml : g.mm.length ≤ 2147483647) :
  SCall Γ 28 #[(.agg (g.cells sv pv mv).toArray)] L (fun v L'=>v = nextV (nextG g) ∧ L' = L) := by
 obtain ⟨As,cs,rfl,hcs⟩ := slShape hs
 obtain ⟨Ap,cp,rfl,hcp⟩ := slShape hp
 obtain ⟨Am,cm,rfl,hcm⟩ := slShape hm
 have hPCb := hg.PC
 refine SCall.enter (n := 55) (resX Γ [.cell 2 60,.tmp 3]) (hP ▸ Tryz.func28) rfl rfl (by simp) (resX_ok rfl) ?_
 refine SX.seq_k fun K1 hK1=>?_
 refine SX.region_d [some 1,some 2,some 3] rfl (fun ops hops=>?_)
 unfold Dsts at hops
 simp (dsimp:=false)(disch:=omega) only [go_sem,Φa,hP,hops]
 intro b0
 try refine stI ?_
 try simp (dsimp:=false)(disch:=omega) only [go_sem,Φa,hP,hops]
 intro b1
 try refine stI ?_
 try simp (dsimp:=false)(disch:=omega) only [go_sem,Φa,hP,hops]
 refine hK1 _ _ ?_
 try clear hK1 K1
 refine SX.seq_k fun K2 hK2=>?_
 refine SX.seq_k fun K3 hK3=>?_
 refine SX.region_d [some 8,some 9,some 10] rfl (fun ops hops=>?_)
 unfold Dsts at hops
 simp (dsimp:=false)(disch:=omega) only [go_sem,Φa,hP,hops]
 iterate 23 refine ⟨_,Cell.at 1 rfl rfl,?_⟩
 try refine stI ?_
 try simp (dsimp:=false)(disch:=omega) only [go_sem,Φa,hP,hops]
 first | (refine SCall.mono (refCheck_spec (g := g) (sv := .slice As g.st.length cs) (pv := .slice Ap g.pg.length cp) (mv := .slice Am g.mm.length cm) hP (SlI.cons _ (SlI.cons _ hs)) (SlI.cons _ (SlI.cons _ hp)) (SlI.cons _ (SlI.cons _ hm)) hsl hpl hml) ?_; rintro v_ L_ ⟨hv_,hL_⟩; rw [hv_,hL_]; clear hv_ hL_ v_ L_) | refine ⟨_,refCheck_spec (g := g) (sv := .slice As g.st.length cs) (pv := .slice Ap g.pg.length cp) (mv := .slice Am g.mm.length cm) hP (SlI.cons _ (SlI.cons _ hs)) (SlI.cons _ (SlI.cons _ hp)) (SlI.cons _ (SlI.cons _ hm)) hsl hpl hml,?_⟩ | refine ⟨_,fun L0 hl0=>refCheck_spec (g := g) (sv := .slice As g.st.length cs) (pv := .slice Ap g.pg.length cp) (mv := .slice Am g.mm.length cm) hP (SlI.cons _ (SlI.cons _ hs)) (SlI.cons _ (SlI.cons _ hp)) (SlI.cons _ (SlI.cons _ hm)) hsl hpl hml,?_⟩
 try refine stI ?_
 try simp (dsimp:=false)(disch:=omega) only [go_sem,Φa,hP,hops]
 refine hK3 _ _ ?_
 try clear hK3 K3
 refine SX.cond_k fun X4 Y4 hX4 hY4=>?_
 simp (dsimp:=false)(disch:=omega) only [go_sem,Φa,hP,condVC]
 refine ⟨fun hc10=>hX4 ?_,fun hc10=>hY4 ?_⟩
 ·clear hX4 hY4 X4 Y4
  refine SX.seq_k fun K5 hK5=>?_
  refine SX.region_d [some 11,none,some 3] rfl (fun ops hops=>?_)
  unfold Dsts at hops
  simp (dsimp:=false)(disch:=omega) only [go_sem,Φa,hP,hops]
  refine ⟨0,_,_,_,rfl,by decide,.inr (by decide),?_⟩
  try refine stI ?_
  try simp (dsimp:=false)(disch:=omega) only [go_sem,Φa,hP,hops]
  refine hK5 _ _ ?_
  try clear hK5 K5
  refine SX.ret ?_
  simp only [andThen_normal,andThen_ret,andThen_exit,inBlk_normal,inBlk_ret,inBlk_exit,Nat.reduceEqDiff,if_true,if_false,↓reduceIte,retQ_ret]
  try simp only [res0,res1,res2,res3,stK_e,resX,resK,oneOr,ld_ptr,loadVC,loadN,List.nil_append,List.cons_append,Nat.reduceAdd,Nat.add_zero,Nat.zero_add,Addr.add_lit,Addr.add_zero',add_addS,T.elA_60,T.lay_60,T.szA_60,T.zr_60,Tryz.underlying60,go_sem,Φa,hP]
  refine ⟨_,L,Less.drops (Less.drop _ _),⟨_,Cell.at 0 rfl rfl,_,Cell.at 0 rfl rfl,_,Cell.at 0 rfl rfl,_,Cell.at 0 rfl rfl,_,Cell.at 0 rfl rfl,_,Cell.at 0 rfl rfl,rfl⟩,?_⟩
  unfold nextG nextV
  rw [if_pos (by simpa using hc10)]
  exact ⟨rfl,rfl⟩
 clear hX4 hY4 X4 Y4
 refine SX.skip ?_
 try simp only [andThen_normal,andThen_ret,andThen_exit,inBlk_normal,inBlk_ret,inBlk_exit,Nat.reduceEqDiff,if_true,if_false,↓reduceIte]
 refine hK2 _ _ ?_
 try clear hK2 K2
 refine SX.seq_k fun K6 hK6=>?_
 refine SX.region_d [some 12,some 13,some 14,some 4] rfl (fun ops hops=>?_)
 unfold Dsts at hops
 simp (dsimp:=false)(disch:=omega) only [go_sem,Φa,hP,hops]
 refine ⟨_,Cell.at 1 rfl (show (g.cells _ _ _)[17]? = _ from rfl),?_⟩
 try refine stI ?_
 try simp (dsimp:=false)(disch:=omega) only [go_sem,Φa,hP,hops]
 refine hK6 _ _ ?_
 try clear hK6 K6
 refine SX.live [1,2,4] (fun T1 hT1=>?_)
 simp only [forall_mem_cons',forall_mem_nil',go_sem,Φa,hP] at hT1
 obtain ⟨h1_1,h1_2,h1_4⟩ := hT1
 refine SX.seq_k fun K7 hK7=>?_
 refine SX.seq_k fun K8 hK8=>?_
 refine SX.region_xd [some 15,some 16,some 17,some 18,some 19,some 20,some 21,some 22,some 23] rfl (fun ops hops=>?_)
 unfold Dsts at hops
 refine RX.live [1,2,4] (fun T2 hT2=>?_)
 simp only [forall_mem_cons',forall_mem_nil',go_sem,Φa,hP,h1_1,h1_2,h1_4] at hT2
 obtain ⟨h2_1,h2_2,h2_4⟩ := hT2
 clear h1_1 h1_2 h1_4 T1
 refine RX.join 9 (fun (ss : Unit) T L'=>T 23 = .bool ((!decide (512 ≤ g.PC ∧ g.PC < 3744)) || !decide (512 ≤ g.PC + 1 ∧ g.PC + 1 < 3744)) ∧ T 1 = T2 1 ∧ T 2 = T2 2 ∧ T 4 = T2 4 ∧ L' = some (b1,.cells #[.int .u8 0,.int .u8 0,.int .u8 0,.int .u8 0,.int .u8 0,.int .u16 0] 60 (0,0)) :: some (b0,.cells (g.cells (.slice As g.st.length cs) (.slice Ap g.pg.length cp) (.slice Am g.mm.length cm)).toArray 27 (0,0)) :: L ∧ (True)) (fun K9 hK9=>?_) ?_
 ·simp only [h2_1,h2_2,h2_4] at hK9
  simp (dsimp:=false)(disch:=omega) only [go_sem,Φa,hP,h2_1,h2_2,h2_4,hops]
  repeat' (first | refine iteB (fun hg=>?_) (fun hg=>?_) | refine iteI (fun hg=>?_) (fun hg=>?_) | ((first | first | (refine SCall.mono (inMem_spec hP) ?_; rintro v_ L_ ⟨hv_,hL_⟩; rw [hv_,hL_]; clear hv_ hL_ v_ L_) | refine ⟨_,inMem_spec hP,?_⟩ | refine ⟨_,fun L0 hl0=>inMem_spec hP,?_⟩ | refine And.intro (by omega) ?_ | refine ⟨_,Cell.at 0 rfl rfl,?_⟩ | refine ⟨_,Cell.at 1 rfl rfl,?_⟩ | fail); try refine stI ?_; try simp (dsimp:=false)(disch:=omega) only [go_sem,Φa,hP,h2_1,h2_2,h2_4,hops]) | fail)
  all_goals
   refine hK9 () _ (some (b1,.cells #[.int .u8 0,.int .u8 0,.int .u8 0,.int .u8 0,.int .u8 0,.int .u16 0] 60 (0,0)) :: some (b0,.cells (g.cells (.slice As g.st.length cs) (.slice Ap g.pg.length cp) (.slice Am g.mm.length cm)).toArray 27 (0,0)) :: L) _ (by first | exact Less.refl _ | exact Less.drop _ _ | exact Less.drops (Less.drop _ _) | exact Less.drops (Less.drops (Less.drop _ _)) | exact Less.drops (Less.drops (Less.drops (Less.drop _ _))) | exact Less.drops (Less.drops (Less.drops (Less.drops (Less.drop _ _))))) ?_
   try dsimp only
   refine ⟨?_,?_,?_,?_,?_,?_⟩
   ·simp (dsimp:=false)(disch:=omega) only [go_sem,Φa,hP,h2_1,h2_2,h2_4]
    first | done | (refine congrArg Value.bool ?_; simp_all; done) | (refine congrArg Value.bool ?_; simp_all; omega)
   ·simp (dsimp:=false)(disch:=omega) only [go_sem,Φa,hP,h2_1,h2_2,h2_4]
   ·simp (dsimp:=false)(disch:=omega) only [go_sem,Φa,hP,h2_1,h2_2,h2_4]
   ·simp (dsimp:=false)(disch:=omega) only [go_sem,Φa,hP,h2_1,h2_2,h2_4]
   ·rfl
   trivial
 intro ss T3 L3 hI
 simp only [h2_1,h2_2,h2_4] at hI 
 obtain ⟨h3_23,h3_1,h3_2,h3_4,hL3,hinv⟩ := hI
 replace hL3 := hL3.symm
 subst hL3
 clear h2_1 h2_2 h2_4 T2
 refine RX.done ?_
 simp (dsimp:=false)(disch:=omega) only [go_sem,Φa,hP,h3_23,h3_1,h3_2,h3_4,hops]
 refine hK8 _ _ ?_
 try clear hK8 K8
 refine SX.cond_k fun X10 Y10 hX10 hY10=>?_
 simp (dsimp:=false)(disch:=omega) only [go_sem,Φa,hP,h3_23,h3_1,h3_2,h3_4,condVC]
 refine ⟨fun hc23=>hX10 ?_,fun hc23=>hY10 ?_⟩
 ·clear hX10 hY10 X10 Y10
  refine SX.seq_k fun K11 hK11=>?_
  refine SX.region_d [some 24,none,some 3] rfl (fun ops hops=>?_)
  unfold Dsts at hops
  simp (dsimp:=false)(disch:=omega) only [go_sem,Φa,hP,h3_23,h3_1,h3_2,h3_4,hops]
  refine ⟨0,_,_,_,rfl,by decide,.inr (by decide),?_⟩
  try refine stI ?_
  try simp (dsimp:=false)(disch:=omega) only [go_sem,Φa,hP,h3_23,h3_1,h3_2,h3_4,hops]
  refine hK11 _ _ ?_
  try clear hK11 K11
  refine SX.ret ?_
  simp only [andThen_normal,andThen_ret,andThen_exit,inBlk_normal,inBlk_ret,inBlk_exit,Nat.reduceEqDiff,if_true,if_false,↓reduceIte,retQ_ret]
  try simp only [res0,res1,res2,res3,stK_e,resX,resK,oneOr,ld_ptr,loadVC,loadN,List.nil_append,List.cons_append,Nat.reduceAdd,Nat.add_zero,Nat.zero_add,Addr.add_lit,Addr.add_zero',add_addS,T.elA_60,T.lay_60,T.szA_60,T.zr_60,Tryz.underlying60,go_sem,Φa,hP,h3_23,h3_1,h3_2,h3_4]
  refine ⟨_,L,Less.drops (Less.drop _ _),⟨_,Cell.at 0 rfl rfl,_,Cell.at 0 rfl rfl,_,Cell.at 0 rfl rfl,_,Cell.at 0 rfl rfl,_,Cell.at 0 rfl rfl,_,Cell.at 0 rfl rfl,rfl⟩,?_⟩
  unfold nextG nextV
  rw [if_neg (by simpa using hc10),if_pos (by simp at hc23; omega)]
  exact ⟨rfl,rfl⟩
 clear hX10 hY10 X10 Y10
 refine SX.skip ?_
 try simp only [andThen_normal,andThen_ret,andThen_exit,inBlk_normal,inBlk_ret,inBlk_exit,Nat.reduceEqDiff,if_true,if_false,↓reduceIte]
 refine hK7 _ _ ?_
 try clear hK7 K7
 refine SX.seq_k fun K12 hK12=>?_
 have hck : checkE g = 0 := by simpa using hc10
 have hml3 : g.mm.length = 3232 := by
  unfold checkE at hck
  split at hck
  ·omega
  omega
 have hPCc : 512 ≤ g.PC ∧ g.PC + 1 < 3744 := by simp at hc23; omega
 obtain ⟨A0,c0,he,hc0,hA0⟩ := id hm
 cases he
 obtain ⟨a1,e1,hm1⟩ := hA0 (g.PC - 512).toNat _ (getD_some (by omega))
 obtain ⟨a2,e2,hm2⟩ := hA0 (g.PC - 512 + 1).toNat _ (getD_some (by omega))
 cases e1
 cases e2
 rw [Nat.mul_one] at hm1 hm2
 change Cell Γ _ _ (.int .u8 _) at hm1
 change Cell Γ _ _ (.int .u8 _) at hm2
 have hb1 := byte_at hg.mm (g.PC - 512).toNat
 have hb2 := byte_at hg.mm (g.PC - 512 + 1).toNat
 have hix : g.PC + 1 - 512 = g.PC - 512 + 1 := by omega
 have hwl : wordG g < 65536 := by unfold wordG; omega
 have hwv : g.mm.getD (g.PC - 512).toNat 0 * 256 + g.mm.getD (g.PC - 512 + 1).toNat 0 = ((wordG g : Nat) : Int) := by unfold wordG; omega
 have hi1 : 0 ≤ g.PC - 512 ∧ g.PC - 512 < (g.mm.length : Int) := by omega
 have hi2 : 0 ≤ g.PC - 512 + 1 ∧ g.PC - 512 + 1 < (g.mm.length : Int) := by omega
 refine SX.quiet_d (hP ▸ T.mixed) (by kernel_rfl) [some 25,some 26,some 27,some 28,some 29,some 30,some 31,some 32,some 33,some 34,some 35,some 36,some 37,some 38,some 39,some 40,some 41,some 5] rfl (fun ops hops=>?_)
 unfold Dsts at hops
 simp (dsimp:=false)(disch:=omega) only [go_sem,Φa,hP,h3_23,h3_1,h3_2,h3_4,hops,hix,hwv]
 refine ⟨_,Cell.at 1 rfl (show (g.cells _ _ _)[22]? = _ from rfl),?_⟩
 try refine stI ?_
 try simp (dsimp:=false)(disch:=omega) only [go_sem,Φa,hP,h3_23,h3_1,h3_2,h3_4,hops,hix,hwv]
 refine ⟨_,Cell.cons _ (Cell.cons _ hm1),?_⟩
 try refine stI ?_
 try simp (dsimp:=false)(disch:=omega) only [go_sem,Φa,hP,h3_23,h3_1,h3_2,h3_4,hops,hix,hwv]
 refine ⟨_,Cell.at 1 rfl (show (g.cells _ _ _)[22]? = _ from rfl),?_⟩
 try refine stI ?_
 try simp (dsimp:=false)(disch:=omega) only [go_sem,Φa,hP,h3_23,h3_1,h3_2,h3_4,hops,hix,hwv]
 refine ⟨_,Cell.cons _ (Cell.cons _ hm2),?_⟩
 try refine stI ?_
 try simp (dsimp:=false)(disch:=omega) only [go_sem,Φa,hP,h3_23,h3_1,h3_2,h3_4,hops,hix,hwv]
 refine hK12 _ _ ?_
 try clear hK12 K12
 refine SX.live [2,5] (fun T4 hT4=>?_)
 simp only [forall_mem_cons',forall_mem_nil',go_sem,Φa,hP,h3_23,h3_1,h3_2,h3_4] at hT4
 obtain ⟨h4_2,h4_5⟩ := hT4
 clear h3_23 h3_1 h3_2 h3_4 T3
 refine SX.seq_k fun K13 hK13=>?_
 refine SX.region_d [some 43,some 44,some 42,some 45,some 46,some 6,none,some 7] rfl (fun ops hops=>?_)
 unfold Dsts at hops
 simp (dsimp:=false)(disch:=omega) only [go_sem,Φa,hP,h4_2,h4_5,hops]
 rcases hdec : decode (wordG g) with _ | oo
 ·skip
  try refine stI ?_
  refine SCall.mono (refDecode_spec (w := wordG g) hP hwl) ?_
  rintro v_ L_ h_
  unfold decodeR at h_
  rw [hdec] at h_
  obtain ⟨hv_,hL_⟩ := h_
  rw [hv_,hL_]
  clear hv_ hL_ v_ L_
  unfold zeroO
  unfold Ord.cells
  try refine stI ?_
  try simp (dsimp:=false)(disch:=omega) only [go_sem,Φa,hP,h4_2,h4_5,hops]
  intro b5
  try refine stI ?_
  try simp (dsimp:=false)(disch:=omega) only [go_sem,Φa,hP,h4_2,h4_5,hops]
  refine ⟨0,_,_,_,rfl,by decide,.inr (by decide),?_⟩
  try refine stI ?_
  try simp (dsimp:=false)(disch:=omega) only [go_sem,Φa,hP,h4_2,h4_5,hops]
  refine hK13 _ _ ?_
  try clear hK13 K13
  refine SX.seq_k fun K14 hK14=>?_
  refine SX.seq_k fun K15 hK15=>?_
  refine SX.region_d [some 47,some 48] rfl (fun ops hops=>?_)
  unfold Dsts at hops
  simp (dsimp:=false)(disch:=omega) only [go_sem,Φa,hP,h4_2,h4_5,hops]
  refine hK15 _ _ ?_
  try clear hK15 K15
  refine SX.live [2,6,48] (fun T5 hT5=>?_)
  simp only [forall_mem_cons',forall_mem_nil',go_sem,Φa,hP,h4_2,h4_5] at hT5
  obtain ⟨h5_2,h5_6,h5_48⟩ := hT5
  clear h4_2 h4_5 T4
  refine SX.cond_k fun X16 Y16 hX16 hY16=>?_
  simp (dsimp:=false)(disch:=omega) only [go_sem,Φa,hP,h5_2,h5_6,h5_48,condVC]
  refine hX16 ?_
  clear hX16 hY16 X16 Y16
  refine SX.seq_k fun K17 hK17=>?_
  refine SX.region_d [some 49,none,some 3] rfl (fun ops hops=>?_)
  unfold Dsts at hops
  simp (dsimp:=false)(disch:=omega) only [go_sem,Φa,hP,h5_2,h5_6,h5_48,hops]
  refine ⟨1,_,_,_,rfl,by decide,.inr (by decide),?_⟩
  try refine stI ?_
  try simp (dsimp:=false)(disch:=omega) only [go_sem,Φa,hP,h5_2,h5_6,h5_48,hops]
  refine hK17 _ _ ?_
  try clear hK17 K17
  refine SX.ret ?_
  simp only [andThen_normal,andThen_ret,andThen_exit,inBlk_normal,inBlk_ret,inBlk_exit,Nat.reduceEqDiff,if_true,if_false,↓reduceIte,retQ_ret]
  try simp only [res0,res1,res2,res3,stK_e,resX,resK,oneOr,ld_ptr,loadVC,loadN,List.nil_append,List.cons_append,Nat.reduceAdd,Nat.add_zero,Nat.zero_add,Addr.add_lit,Addr.add_zero',add_addS,T.elA_60,T.lay_60,T.szA_60,T.zr_60,Tryz.underlying60,go_sem,Φa,hP,h5_2,h5_6,h5_48]
  refine ⟨_,L,Less.drops (Less.drops (Less.drop _ _)),⟨_,Cell.at 1 rfl rfl,_,Cell.at 1 rfl rfl,_,Cell.at 1 rfl rfl,_,Cell.at 1 rfl rfl,_,Cell.at 1 rfl rfl,_,Cell.at 1 rfl rfl,rfl⟩,?_⟩
  unfold nextG nextV
  rw [if_neg (by simpa using hc10),if_neg (by omega),hdec]
  exact ⟨rfl,rfl⟩
 skip
 try refine stI ?_
 refine SCall.mono (refDecode_spec (w := wordG g) hP hwl) ?_
 rintro v_ L_ h_
 unfold decodeR at h_
 rw [hdec] at h_
 obtain ⟨hv_,hL_⟩ := h_
 rw [hv_,hL_]
 clear hv_ hL_ v_ L_
 unfold Ord.cells
 try refine stI ?_
 try simp (dsimp:=false)(disch:=omega) only [go_sem,Φa,hP,h4_2,h4_5,hops]
 intro b5
 try refine stI ?_
 try simp (dsimp:=false)(disch:=omega) only [go_sem,Φa,hP,h4_2,h4_5,hops]
 refine ⟨0,_,_,_,rfl,by decide,.inr (by decide),?_⟩
 try refine stI ?_
 try simp (dsimp:=false)(disch:=omega) only [go_sem,Φa,hP,h4_2,h4_5,hops]
 refine hK13 _ _ ?_
 try clear hK13 K13
 refine SX.seq_k fun K18 hK18=>?_
 refine SX.seq_k fun K19 hK19=>?_
 refine SX.region_d [some 47,some 48] rfl (fun ops hops=>?_)
 unfold Dsts at hops
 simp (dsimp:=false)(disch:=omega) only [go_sem,Φa,hP,h4_2,h4_5,hops]
 refine hK19 _ _ ?_
 try clear hK19 K19
 refine SX.live [2,6,48] (fun T6 hT6=>?_)
 simp only [forall_mem_cons',forall_mem_nil',go_sem,Φa,hP,h4_2,h4_5] at hT6
 obtain ⟨h6_2,h6_6,h6_48⟩ := hT6
 clear h4_2 h4_5 T4
 refine SX.cond_k fun X20 Y20 hX20 hY20=>?_
 simp (dsimp:=false)(disch:=omega) only [go_sem,Φa,hP,h6_2,h6_6,h6_48,condVC]
 refine hY20 ?_
 clear hX20 hY20 X20 Y20
 refine SX.skip ?_
 try simp only [andThen_normal,andThen_ret,andThen_exit,inBlk_normal,inBlk_ret,inBlk_exit,Nat.reduceEqDiff,if_true,if_false,↓reduceIte]
 refine hK18 _ _ ?_
 try clear hK18 K18
 refine SX.seq_k fun K21 hK21=>?_
 refine SX.seq_k fun K22 hK22=>?_
 refine SX.region_d [some 50,some 51,some 52] rfl (fun ops hops=>?_)
 unfold Dsts at hops
 simp (dsimp:=false)(disch:=omega) only [go_sem,Φa,hP,h6_2,h6_6,h6_48,hops]
 refine ⟨_,Cell.at 0 rfl rfl,?_⟩
 try refine stI ?_
 try simp (dsimp:=false)(disch:=omega) only [go_sem,Φa,hP,h6_2,h6_6,h6_48,hops]
 refine hK22 _ _ ?_
 try clear hK22 K22
 refine SX.cond_k fun X23 Y23 hX23 hY23=>?_
 simp (dsimp:=false)(disch:=omega) only [go_sem,Φa,hP,h6_2,h6_6,h6_48,condVC]
 refine ⟨fun hc52=>hX23 ?_,fun hc52=>hY23 ?_⟩
 ·clear hX23 hY23 X23 Y23
  refine SX.seq_k fun K24 hK24=>?_
  refine SX.region_d [some 53,none,some 3] rfl (fun ops hops=>?_)
  unfold Dsts at hops
  simp (dsimp:=false)(disch:=omega) only [go_sem,Φa,hP,h6_2,h6_6,h6_48,hops]
  iterate 6 refine ⟨_,Cell.at 0 rfl rfl,?_⟩
  try refine stI ?_
  try simp (dsimp:=false)(disch:=omega) only [go_sem,Φa,hP,h6_2,h6_6,h6_48,hops]
  refine ⟨1,_,_,_,rfl,by decide,.inr (by decide),?_⟩
  try refine stI ?_
  try simp (dsimp:=false)(disch:=omega) only [go_sem,Φa,hP,h6_2,h6_6,h6_48,hops]
  refine hK24 _ _ ?_
  try clear hK24 K24
  refine SX.ret ?_
  simp only [andThen_normal,andThen_ret,andThen_exit,inBlk_normal,inBlk_ret,inBlk_exit,Nat.reduceEqDiff,if_true,if_false,↓reduceIte,retQ_ret]
  try simp only [res0,res1,res2,res3,stK_e,resX,resK,oneOr,ld_ptr,loadVC,loadN,List.nil_append,List.cons_append,Nat.reduceAdd,Nat.add_zero,Nat.zero_add,Addr.add_lit,Addr.add_zero',add_addS,T.elA_60,T.lay_60,T.szA_60,T.zr_60,Tryz.underlying60,go_sem,Φa,hP,h6_2,h6_6,h6_48]
  refine ⟨_,L,Less.drops (Less.drops (Less.drop _ _)),⟨_,Cell.at 1 rfl rfl,_,Cell.at 1 rfl rfl,_,Cell.at 1 rfl rfl,_,Cell.at 1 rfl rfl,_,Cell.at 1 rfl rfl,_,Cell.at 1 rfl rfl,rfl⟩,?_⟩
  unfold nextG nextV
  rw [if_neg (by simpa using hc10),if_neg (by omega),hdec]
  dsimp only
  rw [if_pos (by first | exact hc52 | omega)]
  exact ⟨rfl,rfl⟩
 clear hX23 hY23 X23 Y23
 refine SX.skip ?_
 try simp only [andThen_normal,andThen_ret,andThen_exit,inBlk_normal,inBlk_ret,inBlk_exit,Nat.reduceEqDiff,if_true,if_false,↓reduceIte]
 refine hK21 _ _ ?_
 try clear hK21 K21
 refine SX.seq_k fun K25 hK25=>?_
 refine SX.region_d [some 54,none,some 3] rfl (fun ops hops=>?_)
 unfold Dsts at hops
 simp (dsimp:=false)(disch:=omega) only [go_sem,Φa,hP,h6_2,h6_6,h6_48,hops]
 iterate 6 refine ⟨_,Cell.at 0 rfl rfl,?_⟩
 try refine stI ?_
 try simp (dsimp:=false)(disch:=omega) only [go_sem,Φa,hP,h6_2,h6_6,h6_48,hops]
 refine ⟨1,_,_,_,rfl,by decide,.inr (by decide),?_⟩
 try refine stI ?_
 try simp (dsimp:=false)(disch:=omega) only [go_sem,Φa,hP,h6_2,h6_6,h6_48,hops]
 refine hK25 _ _ ?_
 try clear hK25 K25
 refine SX.ret ?_
 simp only [andThen_normal,andThen_ret,andThen_exit,inBlk_normal,inBlk_ret,inBlk_exit,Nat.reduceEqDiff,if_true,if_false,↓reduceIte,retQ_ret]
 try simp only [res0,res1,res2,res3,stK_e,resX,resK,oneOr,ld_ptr,loadVC,loadN,List.nil_append,List.cons_append,Nat.reduceAdd,Nat.add_zero,Nat.zero_add,Addr.add_lit,Addr.add_zero',add_addS,T.elA_60,T.lay_60,T.szA_60,T.zr_60,Tryz.underlying60,go_sem,Φa,hP,h6_2,h6_6,h6_48]
 refine ⟨_,L,Less.drops (Less.drops (Less.drop _ _)),⟨_,Cell.at 1 rfl rfl,_,Cell.at 1 rfl rfl,_,Cell.at 1 rfl rfl,_,Cell.at 1 rfl rfl,_,Cell.at 1 rfl rfl,_,Cell.at 1 rfl rfl,rfl⟩,?_⟩
 unfold nextG nextV
 rw [if_neg (by simpa using hc10),if_neg (by omega),hdec]
 dsimp only
 rw [if_neg (by first | exact hc52 | omega)]
 exact ⟨rfl,rfl⟩

theorem lentSlW {Γ : Ctx} {L : Hp} {b : Nat} {l : List Int} (i : Nat) (hL : L[i]? = some (lentW b l)) : SlI .u16 (Cell Γ L) (.slice (some ⟨b,0,none⟩) l.length (l.length + 2)) l :=
 SlI.row (xs := l) (junk := ints .u16 [41377,41634]) i (by rw [hL,lentW,ints_app]) rfl (by omega)
theorem lentSlB {Γ : Ctx} {L : Hp} {b : Nat} {l : List Int} (i : Nat) (hL : L[i]? = some (lentB b l)) : SlI .u8 (Cell Γ L) (.slice (some ⟨b,0,none⟩) l.length (l.length + 3)) l :=
 SlI.row (xs := l) (junk := ints .u8 [161,162,163]) i (by rw [hL,lentB,ints_app]) rfl (by omega)
end Go.Proofs.YtgioegdjeodpiaaGreat
namespace Go.Proofs.YtgioegdjeodpiaaGreat
open Go.RowKit Go.SX
open Go.SX renaming ia_someH → Φa
set_option maxHeartbeats 1000000
set_option maxRecDepth 100000

theorem lessIn {a x y z : Slot} {R : Hp} : Less (a :: x :: y :: z :: R) (x :: y :: z :: a :: R) := Less.perm (List.perm_middle (l₁ := [x,y,z])).symm
theorem refFontMay_spec {Γ : Ctx} (hP : Γ.P = Tryz.prog) {L : Hp} {f : Fnt} {A : Option Addr} {c : Nat} (hfl : f.bs.length ≤ 2147483647) (hfr : 0 ≤ f.from_ ∧ f.from_ ≤ 65535) :
  SCall Γ 27 #[(.agg (f.cells (.slice A f.bs.length c)).toArray)] L (fun v L'=>v = .bool (decide (f.from_ + (f.bs.length : Int) ≤ 65536)) ∧ L' = L) := by
 refine SCall.enter (n := 11) (res1 2) (hP ▸ Tryz.func27) rfl rfl (by simp) (res1_ok rfl) ?_
 refine SX.seq_k fun K1 hK1=>?_
 refine SX.region_d [some 1,some 2] rfl (fun ops hops=>?_)
 unfold Dsts at hops
 simp (dsimp:=false)(disch:=omega) only [go_sem,Φa,hP,hops]
 intro bf
 try refine stI ?_
 try simp (dsimp:=false)(disch:=omega) only [go_sem,Φa,hP,hops]
 refine hK1 _ _ ?_
 try clear hK1 K1
 refine SX.seq_k fun K2 hK2=>?_
 refine SX.region_d [some 3,some 4,some 5,some 6,some 7,some 8,some 9,some 10,some 2] rfl (fun ops hops=>?_)
 unfold Dsts at hops
 simp (dsimp:=false)(disch:=omega) only [go_sem,Φa,hP,hops]
 refine ⟨_,Cell.at 0 rfl (show (Fnt.cells _ _)[16]? = _ from rfl),?_⟩
 try refine stI ?_
 try simp (dsimp:=false)(disch:=omega) only [go_sem,Φa,hP,hops]
 refine ⟨_,Cell.at 0 rfl (show (Fnt.cells _ _)[17]? = _ from rfl),?_⟩
 try refine stI ?_
 try simp (dsimp:=false)(disch:=omega) only [go_sem,Φa,hP,hops]
 refine hK2 _ _ ?_
 try clear hK2 K2
 refine SX.ret ?_
 simp only [andThen_normal,andThen_ret,andThen_exit,inBlk_normal,inBlk_ret,inBlk_exit,Nat.reduceEqDiff,if_true,if_false,↓reduceIte,retQ_ret]
 try simp only [res0,res1,res2,res3,stK_e,go_sem,Φa,hP]
 exact ⟨_,_,Less.drop _ _,rfl,rfl,rfl⟩
theorem refStep_spec {Γ : Ctx} (hP : Γ.P = Tryz.prog) {L : Hp} {g : GM} {sv pv mv : Value} {f : Fnt} {fv : Value} {d : Feed} (hg : OkG g) (hF : OkF f) (hd : OkD d) (hs : SlI .u16 (Cell Γ L) sv g.st) (hp : SlI .u8 (Cell Γ L) pv g.pg) (hm : SlI .u8 (Cell Γ L) mv g.mm) (hf : SlI .u8 (Cell Γ L) fv f.bs) (hsl : g.st.length ≤ 2147483647) (hpl : g.pg.length ≤ 2147483647) (hml : g.mm.length ≤ 2147483647) (hfl : f.bs.length ≤ 2147483647) :
  SCall Γ 19 #[(.agg (g.cells sv pv mv).toArray),(.agg (f.cells fv).toArray),(.agg d.cells.toArray)] L (stepR (stepG g f d) L) := by
 obtain ⟨As,cs,rfl,hcs⟩ := slShape hs
 obtain ⟨Ap,cp,rfl,hcp⟩ := slShape hp
 obtain ⟨Am,cm,rfl,hcm⟩ := slShape hm
 obtain ⟨Af,cf,rfl,hcf⟩ := slShape hf
 have hPCb := hg.PC
 have hfrb := hF.from_
 refine SCall.enter (n := 58) (resX Γ [.cell 6 27,.tmp 7,.tmp 8]) (hP ▸ Tryz.func19) rfl rfl (by simp) (resX_ok rfl) ?_
 refine SX.seq_k fun K1 hK1=>?_
 refine SX.region_d [some 3,some 4,some 5,some 6,some 7,some 8] rfl (fun ops hops=>?_)
 unfold Dsts at hops
 simp (dsimp:=false)(disch:=omega) only [go_sem,Φa,hP,hops]
 intro b0
 try refine stI ?_
 try simp (dsimp:=false)(disch:=omega) only [go_sem,Φa,hP,hops]
 intro b1
 try refine stI ?_
 try simp (dsimp:=false)(disch:=omega) only [go_sem,Φa,hP,hops]
 intro b2
 try refine stI ?_
 try simp (dsimp:=false)(disch:=omega) only [go_sem,Φa,hP,hops]
 intro b3
 try refine stI ?_
 try simp (dsimp:=false)(disch:=omega) only [go_sem,Φa,hP,hops]
 refine hK1 _ _ ?_
 try clear hK1 K1
 refine SX.seq_k fun K2 hK2=>?_
 refine SX.region_d [some 13,some 14,some 9] rfl (fun ops hops=>?_)
 unfold Dsts at hops
 simp (dsimp:=false)(disch:=omega) only [go_sem,Φa,hP,hops]
 ((iterate 23 refine ⟨_,Cell.at 3 rfl rfl,?_⟩); rw [lit_g])
 try refine stI ?_
 try simp (dsimp:=false)(disch:=omega) only [go_sem,Φa,hP,hops]
 refine SCall.mono (refCheck_spec (g := g) (sv := .slice As g.st.length cs) (pv := .slice Ap g.pg.length cp) (mv := .slice Am g.mm.length cm) hP (SlI.cons _ (SlI.cons _ (SlI.cons _ (SlI.cons _ hs)))) (SlI.cons _ (SlI.cons _ (SlI.cons _ (SlI.cons _ hp)))) (SlI.cons _ (SlI.cons _ (SlI.cons _ (SlI.cons _ hm)))) (by omega) (by omega) (by omega)) ?_
 rintro v_ L_ ⟨hv_,hL_⟩
 rw [hv_,hL_]
 clear hv_ hL_ v_ L_
 try refine stI ?_
 try simp (dsimp:=false)(disch:=omega) only [go_sem,Φa,hP,hops]
 refine hK2 _ _ ?_
 try clear hK2 K2
 refine SX.live [3,4,5,6,9] (fun T1 hT1=>?_)
 simp only [forall_mem_cons',forall_mem_nil',go_sem,Φa,hP] at hT1
 obtain ⟨h1_3,h1_4,h1_5,h1_6,h1_9⟩ := hT1
 refine SX.seq_k fun K3 hK3=>?_
 refine SX.seq_k fun K4 hK4=>?_
 refine SX.region_d [some 15,some 16] rfl (fun ops hops=>?_)
 unfold Dsts at hops
 simp (dsimp:=false)(disch:=omega) only [go_sem,Φa,hP,h1_3,h1_4,h1_5,h1_6,h1_9,hops]
 repeat' ((first | refine And.intro (by omega) ?_ | fail); try refine stI ?_; try simp (dsimp:=false)(disch:=omega) only [go_sem,Φa,hP,h1_3,h1_4,h1_5,h1_6,h1_9,hops])
 refine hK4 _ _ ?_
 try clear hK4 K4
 refine SX.cond_k fun X5 Y5 hX5 hY5=>?_
 simp (dsimp:=false)(disch:=omega) only [go_sem,Φa,hP,h1_3,h1_4,h1_5,h1_6,h1_9,condVC]
 refine ⟨fun hc16=>hX5 ?_,fun hc16=>hY5 ?_⟩
 ·clear hX5 hY5 X5 Y5
  refine SX.seq_k fun K6 hK6=>?_
  refine SX.region_d [some 17,some 18,none,some 7,some 8] rfl (fun ops hops=>?_)
  unfold Dsts at hops
  simp (dsimp:=false)(disch:=omega) only [go_sem,Φa,hP,h1_3,h1_4,h1_5,h1_6,h1_9,hops]
  refine ⟨0,_,_,_,rfl,by decide,.inr (by decide),?_⟩
  try refine stI ?_
  try simp (dsimp:=false)(disch:=omega) only [go_sem,Φa,hP,h1_3,h1_4,h1_5,h1_6,h1_9,hops]
  refine hK6 _ _ ?_
  try clear hK6 K6
  refine SX.ret ?_
  simp only [andThen_normal,andThen_ret,andThen_exit,inBlk_normal,inBlk_ret,inBlk_exit,Nat.reduceEqDiff,if_true,if_false,↓reduceIte,retQ_ret]
  try simp only [res0,res1,res2,res3,stK_e,resX,resK,oneOr,ld_ptr,loadVC,loadN,List.nil_append,List.cons_append,Nat.reduceAdd,Nat.add_zero,Nat.zero_add,Addr.add_lit,Addr.add_zero',add_addS,T.elA_27,T.lay_27,T.szA_27,T.zr_27,Tryz.underlying27,go_sem,Φa,hP,h1_3,h1_4,h1_5,h1_6,h1_9]
  refine ⟨_,_,(Less.drops (Less.drops (Less.drops (Less.drop _ _)))).trans ((Less.none _).trans ((Less.none _).trans (Less.none _))),⟨_,Cell.at 0 rfl rfl,_,Cell.at 0 rfl rfl,_,Cell.at 0 rfl rfl,_,Cell.at 0 rfl rfl,_,Cell.at 0 rfl rfl,_,Cell.at 0 rfl rfl,_,Cell.at 0 rfl rfl,_,Cell.at 0 rfl rfl,_,Cell.at 0 rfl rfl,_,Cell.at 0 rfl rfl,_,Cell.at 0 rfl rfl,_,Cell.at 0 rfl rfl,_,Cell.at 0 rfl rfl,_,Cell.at 0 rfl rfl,_,Cell.at 0 rfl rfl,_,Cell.at 0 rfl rfl,_,Cell.at 0 rfl rfl,_,Cell.at 0 rfl rfl,_,Cell.at 0 rfl rfl,_,Cell.at 0 rfl rfl,_,Cell.at 0 rfl rfl,_,Cell.at 0 rfl rfl,_,Cell.at 0 rfl rfl,rfl⟩,?_⟩
  unfold stepG
  rw [if_pos (by omega)]
  exact ⟨_,_,_,_,_,_,rfl,rfl,⟨RowI.nil _ _,RowI.nil _ _,RowI.nil _ _⟩⟩
 clear hX5 hY5 X5 Y5
 refine SX.skip ?_
 try simp only [andThen_normal,andThen_ret,andThen_exit,inBlk_normal,inBlk_ret,inBlk_exit,Nat.reduceEqDiff,if_true,if_false,↓reduceIte]
 refine hK3 _ _ ?_
 try clear hK3 K3
 refine SX.seq_k fun K7 hK7=>?_
 refine SX.seq_k fun K8 hK8=>?_
 refine SX.region_xd [some 19,some 20,some 21,some 22,some 23,some 24,some 25,some 26] rfl (fun ops hops=>?_)
 unfold Dsts at hops
 refine RX.live [3,4,5,6] (fun T2 hT2=>?_)
 simp only [forall_mem_cons',forall_mem_nil',go_sem,Φa,hP,h1_3,h1_4,h1_5,h1_6,h1_9] at hT2
 obtain ⟨h2_3,h2_4,h2_5,h2_6⟩ := hT2
 clear h1_3 h1_4 h1_5 h1_6 h1_9 T1
 refine RX.join 8 (fun (ss : Unit) T L'=>T 26 = .bool (decide (65536 < f.from_ + (f.bs.length : Int)) || decide (16 ≤ d.key)) ∧ T 3 = T2 3 ∧ T 4 = T2 4 ∧ T 5 = T2 5 ∧ T 6 = T2 6 ∧ L' = some (b3,.cells #[.int .u8 0,.int .u8 0,.int .u8 0,.int .u8 0,.int .u8 0,.int .u8 0,.int .u8 0,.int .u8 0,.int .u8 0,.int .u8 0,.int .u8 0,.int .u8 0,.int .u8 0,.int .u8 0,.int .u8 0,.int .u8 0,.int .u16 0,.int .u16 0,.slice none 0 0,.int .u8 0,.int .u8 0,.slice none 0 0,.slice none 0 0] 27 (0,0)) :: some (b2,.cells d.cells.toArray 38 (0,0)) :: some (b1,.cells (f.cells (.slice Af f.bs.length cf)).toArray 30 (0,0)) :: some (b0,.cells (g.cells (.slice As g.st.length cs) (.slice Ap g.pg.length cp) (.slice Am g.mm.length cm)).toArray 27 (0,0)) :: L ∧ (True)) (fun K9 hK9=>?_) ?_
 ·simp only [h2_3,h2_4,h2_5,h2_6] at hK9
  simp (dsimp:=false)(disch:=omega) only [go_sem,Φa,hP,h2_3,h2_4,h2_5,h2_6,hops]
  repeat' (first | refine iteB (fun hg=>?_) (fun hg=>?_) | refine iteI (fun hg=>?_) (fun hg=>?_) | ((first | ((iterate 18 refine ⟨_,Cell.at 2 rfl rfl,?_⟩); (show SCall Γ 27 _ _ _); (refine SCall.mono (refFontMay_spec hP hfl hfrb) ?_); rintro v_ L_ ⟨rfl,rfl⟩) | (iterate 18 refine ⟨_,Cell.at 2 rfl rfl,?_⟩) | ((show SCall Γ 27 _ _ _); (refine SCall.mono (refFontMay_spec hP hfl hfrb) ?_); rintro v_ L_ ⟨rfl,rfl⟩) | refine ⟨_,refFontMay_spec hP hfl hfrb,?_⟩ | refine ⟨_,fun L0 hl0=>refFontMay_spec hP hfl hfrb,?_⟩ | refine ⟨_,Cell.at 1 rfl (show (d.cells)[2]? = _ from rfl),?_⟩ | refine And.intro (by omega) ?_ | (iterate 18 refine ⟨_,Cell.at 0 rfl rfl,?_⟩) | (iterate 18 refine ⟨_,Cell.at 1 rfl rfl,?_⟩) | (iterate 18 refine ⟨_,Cell.at 2 rfl rfl,?_⟩) | (iterate 18 refine ⟨_,Cell.at 3 rfl rfl,?_⟩) | refine ⟨_,Cell.at 0 rfl rfl,?_⟩ | refine ⟨_,Cell.at 1 rfl rfl,?_⟩ | refine ⟨_,Cell.at 2 rfl rfl,?_⟩ | refine ⟨_,Cell.at 3 rfl rfl,?_⟩ | fail); try refine stI ?_; try simp (dsimp:=false)(disch:=omega) only [go_sem,Φa,hP,h2_3,h2_4,h2_5,h2_6,hops]) | fail)
  all_goals
   refine hK9 () _ (some (b3,.cells #[.int .u8 0,.int .u8 0,.int .u8 0,.int .u8 0,.int .u8 0,.int .u8 0,.int .u8 0,.int .u8 0,.int .u8 0,.int .u8 0,.int .u8 0,.int .u8 0,.int .u8 0,.int .u8 0,.int .u8 0,.int .u8 0,.int .u16 0,.int .u16 0,.slice none 0 0,.int .u8 0,.int .u8 0,.slice none 0 0,.slice none 0 0] 27 (0,0)) :: some (b2,.cells d.cells.toArray 38 (0,0)) :: some (b1,.cells (f.cells (.slice Af f.bs.length cf)).toArray 30 (0,0)) :: some (b0,.cells (g.cells (.slice As g.st.length cs) (.slice Ap g.pg.length cp) (.slice Am g.mm.length cm)).toArray 27 (0,0)) :: L) _ (by first | exact Less.refl _ | exact Less.drop _ _ | exact Less.drops (Less.drop _ _) | exact Less.drops (Less.drops (Less.drop _ _)) | exact Less.drops (Less.drops (Less.drops (Less.drop _ _))) | exact Less.drops (Less.drops (Less.drops (Less.drops (Less.drop _ _))))) ?_
   try dsimp only
   refine ⟨?_,?_,?_,?_,?_,?_,?_⟩
   ·simp (dsimp:=false)(disch:=omega) only [go_sem,Φa,hP,h2_3,h2_4,h2_5,h2_6]
    first | done | (refine congrArg Value.bool ?_; simp_all; done) | (refine congrArg Value.bool ?_; simp_all; omega)
   ·simp (dsimp:=false)(disch:=omega) only [go_sem,Φa,hP,h2_3,h2_4,h2_5,h2_6]
   ·simp (dsimp:=false)(disch:=omega) only [go_sem,Φa,hP,h2_3,h2_4,h2_5,h2_6]
   ·simp (dsimp:=false)(disch:=omega) only [go_sem,Φa,hP,h2_3,h2_4,h2_5,h2_6]
   ·simp (dsimp:=false)(disch:=omega) only [go_sem,Φa,hP,h2_3,h2_4,h2_5,h2_6]
   ·rfl
   trivial
 intro ss T3 L3 hI
 simp only [h2_3,h2_4,h2_5,h2_6] at hI 
 obtain ⟨h3_26,h3_3,h3_4,h3_5,h3_6,hL3,hinv⟩ := hI
 replace hL3 := hL3.symm
 subst hL3
 clear h2_3 h2_4 h2_5 h2_6 T2
 refine RX.done ?_
 simp (dsimp:=false)(disch:=omega) only [go_sem,Φa,hP,h3_26,h3_3,h3_4,h3_5,h3_6,hops]
 refine hK8 _ _ ?_
 try clear hK8 K8
 refine SX.cond_k fun X10 Y10 hX10 hY10=>?_
 simp (dsimp:=false)(disch:=omega) only [go_sem,Φa,hP,h3_26,h3_3,h3_4,h3_5,h3_6,condVC]
 refine ⟨fun hc26=>hX10 ?_,fun hc26=>hY10 ?_⟩
 ·clear hX10 hY10 X10 Y10
  refine SX.seq_k fun K11 hK11=>?_
  refine SX.region_d [some 27,none,some 7,some 8] rfl (fun ops hops=>?_)
  unfold Dsts at hops
  simp (dsimp:=false)(disch:=omega) only [go_sem,Φa,hP,h3_26,h3_3,h3_4,h3_5,h3_6,hops]
  refine ⟨0,_,_,_,rfl,by decide,.inr (by decide),?_⟩
  try refine stI ?_
  try simp (dsimp:=false)(disch:=omega) only [go_sem,Φa,hP,h3_26,h3_3,h3_4,h3_5,h3_6,hops]
  refine hK11 _ _ ?_
  try clear hK11 K11
  refine SX.ret ?_
  simp only [andThen_normal,andThen_ret,andThen_exit,inBlk_normal,inBlk_ret,inBlk_exit,Nat.reduceEqDiff,if_true,if_false,↓reduceIte,retQ_ret]
  try simp only [res0,res1,res2,res3,stK_e,resX,resK,oneOr,ld_ptr,loadVC,loadN,List.nil_append,List.cons_append,Nat.reduceAdd,Nat.add_zero,Nat.zero_add,Addr.add_lit,Addr.add_zero',add_addS,T.elA_27,T.lay_27,T.szA_27,T.zr_27,Tryz.underlying27,go_sem,Φa,hP,h3_26,h3_3,h3_4,h3_5,h3_6]
  refine ⟨_,_,(Less.drops (Less.drops (Less.drops (Less.drop _ _)))).trans ((Less.none _).trans ((Less.none _).trans (Less.none _))),⟨_,Cell.at 0 rfl rfl,_,Cell.at 0 rfl rfl,_,Cell.at 0 rfl rfl,_,Cell.at 0 rfl rfl,_,Cell.at 0 rfl rfl,_,Cell.at 0 rfl rfl,_,Cell.at 0 rfl rfl,_,Cell.at 0 rfl rfl,_,Cell.at 0 rfl rfl,_,Cell.at 0 rfl rfl,_,Cell.at 0 rfl rfl,_,Cell.at 0 rfl rfl,_,Cell.at 0 rfl rfl,_,Cell.at 0 rfl rfl,_,Cell.at 0 rfl rfl,_,Cell.at 0 rfl rfl,_,Cell.at 0 rfl rfl,_,Cell.at 0 rfl rfl,_,Cell.at 0 rfl rfl,_,Cell.at 0 rfl rfl,_,Cell.at 0 rfl rfl,_,Cell.at 0 rfl rfl,_,Cell.at 0 rfl rfl,rfl⟩,?_⟩
  unfold stepG
  rw [if_neg (by omega),if_pos (by simpa using hc26)]
  exact ⟨_,_,_,_,_,_,rfl,rfl,⟨RowI.nil _ _,RowI.nil _ _,RowI.nil _ _⟩⟩
 clear hX10 hY10 X10 Y10
 refine SX.skip ?_
 try simp only [andThen_normal,andThen_ret,andThen_exit,inBlk_normal,inBlk_ret,inBlk_exit,Nat.reduceEqDiff,if_true,if_false,↓reduceIte]
 refine hK7 _ _ ?_
 try clear hK7 K7
 refine SX.seq_k fun K12 hK12=>?_
 have hck0 : checkE g = 0 := by omega
 have hsl2 : g.st.length ≤ 1000000 := by unfold checkE at hck0; split at hck0 <;> omega
 have hpl2 : g.pg.length ≤ 1000000 := by unfold checkE at hck0; split at hck0 <;> omega
 have hml2 : g.mm.length ≤ 1000000 := by unfold checkE at hck0; split at hck0 <;> omega
 refine SX.region_d [some 29,some 30,some 28,some 31,some 32,some 10,none,some 11] rfl (fun ops hops=>?_)
 unfold Dsts at hops
 simp (dsimp:=false)(disch:=omega) only [go_sem,Φa,hP,h3_26,h3_3,h3_4,h3_5,h3_6,hops]
 ((iterate 23 refine ⟨_,Cell.at 3 rfl rfl,?_⟩); rw [lit_g])
 try refine stI ?_
 try simp (dsimp:=false)(disch:=omega) only [go_sem,Φa,hP,h3_26,h3_3,h3_4,h3_5,h3_6,hops]
 refine SCall.mono (refNext_spec (g := g) (sv := .slice As g.st.length cs) (pv := .slice Ap g.pg.length cp) (mv := .slice Am g.mm.length cm) hP hg (SlI.cons _ (SlI.cons _ (SlI.cons _ (SlI.cons _ hs)))) (SlI.cons _ (SlI.cons _ (SlI.cons _ (SlI.cons _ hp)))) (SlI.cons _ (SlI.cons _ (SlI.cons _ (SlI.cons _ hm)))) (by omega) (by omega) (by omega)) ?_
 rintro v_ L_ ⟨hv_,hL_⟩
 rw [hv_,hL_]
 clear hv_ hL_ v_ L_
 unfold nextV Ord.cells
 try refine stI ?_
 try simp (dsimp:=false)(disch:=omega) only [go_sem,Φa,hP,h3_26,h3_3,h3_4,h3_5,h3_6,hops]
 intro b4
 try refine stI ?_
 try simp (dsimp:=false)(disch:=omega) only [go_sem,Φa,hP,h3_26,h3_3,h3_4,h3_5,h3_6,hops]
 refine ⟨0,_,_,_,rfl,by decide,.inr (by decide),?_⟩
 try refine stI ?_
 try simp (dsimp:=false)(disch:=omega) only [go_sem,Φa,hP,h3_26,h3_3,h3_4,h3_5,h3_6,hops]
 refine hK12 _ _ ?_
 try clear hK12 K12
 refine SX.seq_k fun K13 hK13=>?_
 refine SX.seq_k fun K14 hK14=>?_
 refine SX.region_d [some 33,some 34] rfl (fun ops hops=>?_)
 unfold Dsts at hops
 simp (dsimp:=false)(disch:=omega) only [go_sem,Φa,hP,h3_26,h3_3,h3_4,h3_5,h3_6,hops]
 repeat' ((first | refine And.intro (by omega) ?_ | fail); try refine stI ?_; try simp (dsimp:=false)(disch:=omega) only [go_sem,Φa,hP,h3_26,h3_3,h3_4,h3_5,h3_6,hops])
 refine hK14 _ _ ?_
 try clear hK14 K14
 refine SX.live [3,4,5,6,10,11,34] (fun T4 hT4=>?_)
 simp only [forall_mem_cons',forall_mem_nil',go_sem,Φa,hP,h3_26,h3_3,h3_4,h3_5,h3_6] at hT4
 obtain ⟨h4_3,h4_4,h4_5,h4_6,h4_10,h4_11,h4_34⟩ := hT4
 clear h3_26 h3_3 h3_4 h3_5 h3_6 T3
 refine SX.cond_k fun X15 Y15 hX15 hY15=>?_
 simp (dsimp:=false)(disch:=omega) only [go_sem,Φa,hP,h4_3,h4_4,h4_5,h4_6,h4_10,h4_11,h4_34,condVC]
 refine ⟨fun hc34=>hX15 ?_,fun hc34=>hY15 ?_⟩
 ·clear hX15 hY15 X15 Y15
  refine SX.seq_k fun K16 hK16=>?_
  refine SX.region_d [some 35,some 36,some 37,none,some 7,some 8] rfl (fun ops hops=>?_)
  unfold Dsts at hops
  simp (dsimp:=false)(disch:=omega) only [go_sem,Φa,hP,h4_3,h4_4,h4_5,h4_6,h4_10,h4_11,h4_34,hops]
  ((iterate 23 refine ⟨_,Cell.at 4 rfl rfl,?_⟩); rw [lit_g])
  try refine stI ?_
  try simp (dsimp:=false)(disch:=omega) only [go_sem,Φa,hP,h4_3,h4_4,h4_5,h4_6,h4_10,h4_11,h4_34,hops]
  refine SCall.mono (Copied_spec (g := g) (sv := .slice As g.st.length cs) (pv := .slice Ap g.pg.length cp) (mv := .slice Am g.mm.length cm) hP (SlI.cons _ (SlI.cons _ (SlI.cons _ (SlI.cons _ (SlI.cons _ hs))))) (SlI.cons _ (SlI.cons _ (SlI.cons _ (SlI.cons _ (SlI.cons _ hp))))) (SlI.cons _ (SlI.cons _ (SlI.cons _ (SlI.cons _ (SlI.cons _ hm))))) hsl2 hpl2 hml2) ?_
  rintro v_ L_ ⟨sv',pv',mv',t1,t2,t3,rfl,rfl,hrc⟩
  obtain ⟨Z1,Z4,rfl,hz1⟩ := rowShape hrc.st
  obtain ⟨Z2,Z5,rfl,hz2⟩ := rowShape hrc.pg
  obtain ⟨Z3,Z6,rfl,hz3⟩ := rowShape hrc.mm
  try refine stI ?_
  try simp (dsimp:=false)(disch:=omega) only [go_sem,Φa,hP,h4_3,h4_4,h4_5,h4_6,h4_10,h4_11,h4_34,hops]
  refine ⟨rfl,rfl,4,_,_,_,rfl,Nat.le_refl 23,.inr (Nat.zero_le 0),?_⟩
  try refine stI ?_
  try simp (dsimp:=false)(disch:=omega) only [go_sem,Φa,hP,h4_3,h4_4,h4_5,h4_6,h4_10,h4_11,h4_34,hops]
  rw [put_g rfl]
  refine hK16 _ _ ?_
  try clear hK16 K16
  refine SX.ret ?_
  simp only [andThen_normal,andThen_ret,andThen_exit,inBlk_normal,inBlk_ret,inBlk_exit,Nat.reduceEqDiff,if_true,if_false,↓reduceIte,retQ_ret]
  try simp only [res0,res1,res2,res3,stK_e,resX,resK,oneOr,ld_ptr,loadVC,loadN,List.nil_append,List.cons_append,Nat.reduceAdd,Nat.add_zero,Nat.zero_add,Addr.add_lit,Addr.add_zero',add_addS,T.elA_27,T.lay_27,T.szA_27,T.zr_27,Tryz.underlying27,go_sem,Φa,hP,h4_3,h4_4,h4_5,h4_6,h4_10,h4_11,h4_34]
  refine ⟨_,_,Less.sublist (.cons_cons _ (.cons_cons _ (.cons_cons _ (.cons _ (.cons _ (.cons _ (.cons _ (.cons _ (List.Sublist.refl _))))))))),⟨_,Cell.at 4 rfl rfl,_,Cell.at 4 rfl rfl,_,Cell.at 4 rfl rfl,_,Cell.at 4 rfl rfl,_,Cell.at 4 rfl rfl,_,Cell.at 4 rfl rfl,_,Cell.at 4 rfl rfl,_,Cell.at 4 rfl rfl,_,Cell.at 4 rfl rfl,_,Cell.at 4 rfl rfl,_,Cell.at 4 rfl rfl,_,Cell.at 4 rfl rfl,_,Cell.at 4 rfl rfl,_,Cell.at 4 rfl rfl,_,Cell.at 4 rfl rfl,_,Cell.at 4 rfl rfl,_,Cell.at 4 rfl rfl,_,Cell.at 4 rfl rfl,_,Cell.at 4 rfl rfl,_,Cell.at 4 rfl rfl,_,Cell.at 4 rfl rfl,_,Cell.at 4 rfl rfl,_,Cell.at 4 rfl rfl,rfl⟩,?_⟩
  unfold stepG
  rw [if_neg (by omega),if_neg (by simp at hc26; omega),if_pos (by simpa using hc34)]
  exact ⟨_,_,_,t1,t2,t3,rfl,rfl,hrc⟩
 clear hX15 hY15 X15 Y15
 refine SX.skip ?_
 try simp only [andThen_normal,andThen_ret,andThen_exit,inBlk_normal,inBlk_ret,inBlk_exit,Nat.reduceEqDiff,if_true,if_false,↓reduceIte]
 refine hK13 _ _ ?_
 try clear hK13 K13
 refine SX.seq_k fun K17 hK17=>?_
 refine SX.region_d [some 38,some 39,some 12,none] rfl (fun ops hops=>?_)
 unfold Dsts at hops
 simp (dsimp:=false)(disch:=omega) only [go_sem,Φa,hP,h4_3,h4_4,h4_5,h4_6,h4_10,h4_11,h4_34,hops]
 ((iterate 23 refine ⟨_,Cell.at 4 rfl rfl,?_⟩); rw [lit_g])
 try refine stI ?_
 try simp (dsimp:=false)(disch:=omega) only [go_sem,Φa,hP,h4_3,h4_4,h4_5,h4_6,h4_10,h4_11,h4_34,hops]
 refine SCall.mono (Copied_spec (g := g) (sv := .slice As g.st.length cs) (pv := .slice Ap g.pg.length cp) (mv := .slice Am g.mm.length cm) hP (SlI.cons _ (SlI.cons _ (SlI.cons _ (SlI.cons _ (SlI.cons _ hs))))) (SlI.cons _ (SlI.cons _ (SlI.cons _ (SlI.cons _ (SlI.cons _ hp))))) (SlI.cons _ (SlI.cons _ (SlI.cons _ (SlI.cons _ (SlI.cons _ hm))))) hsl2 hpl2 hml2) ?_
 rintro v_ L_ ⟨sv',pv',mv',t1,t2,t3,rfl,rfl,hrc⟩
 obtain ⟨Z1,Z4,rfl,hz1⟩ := rowShape hrc.st
 obtain ⟨Z2,Z5,rfl,hz2⟩ := rowShape hrc.pg
 obtain ⟨Z3,Z6,rfl,hz3⟩ := rowShape hrc.mm
 try refine stI ?_
 try simp (dsimp:=false)(disch:=omega) only [go_sem,Φa,hP,h4_3,h4_4,h4_5,h4_6,h4_10,h4_11,h4_34,hops]
 intro b5
 try refine stI ?_
 try simp (dsimp:=false)(disch:=omega) only [go_sem,Φa,hP,h4_3,h4_4,h4_5,h4_6,h4_10,h4_11,h4_34,hops]
 refine ⟨rfl,rfl,0,_,_,_,rfl,Nat.le_refl 23,.inr (Nat.zero_le 0),?_⟩
 try refine stI ?_
 try simp (dsimp:=false)(disch:=omega) only [go_sem,Φa,hP,h4_3,h4_4,h4_5,h4_6,h4_10,h4_11,h4_34,hops]
 rw [put_g rfl]
 refine hK17 _ _ ?_
 try clear hK17 K17
 refine SX.seq_k fun K18 hK18=>?_
 refine SX.region_d [some 40,some 41,some 42,some 43,none] rfl (fun ops hops=>?_)
 unfold Dsts at hops
 simp (dsimp:=false)(disch:=omega) only [go_sem,Φa,hP,h4_3,h4_4,h4_5,h4_6,h4_10,h4_11,h4_34,hops]
 refine ⟨_,Cell.at 0 rfl (show (GM.cells _ _ _ _)[17]? = _ from rfl),?_⟩
 try refine stI ?_
 try simp (dsimp:=false)(disch:=omega) only [go_sem,Φa,hP,h4_3,h4_4,h4_5,h4_6,h4_10,h4_11,h4_34,hops]
 refine ⟨0,_,_,_,rfl,(by simp [GM.cells]),.inr (Nat.zero_le _),?_⟩
 try refine stI ?_
 try simp (dsimp:=false)(disch:=omega) only [go_sem,Φa,hP,h4_3,h4_4,h4_5,h4_6,h4_10,h4_11,h4_34,hops]
 rw [set_PCG]
 refine hK18 _ _ ?_
 try clear hK18 K18
 refine SX.seq_k fun K19 hK19=>?_
 have hc0 : checkE g = 0 := by omega
 have hnx : (nextG g).2 = 1 := by simpa using hc34
 have hdec := (nextG_dec (g := g) hnx).1
 have hop2 := (nextG_dec (g := g) hnx).2
 have hop3 : (nextG g).1.op ≤ 31 := hdec.op2
 have hoo : OkO (nextG g).1 := hdec.ok
 have hox : (nextG g).1.x < 16 := hdec.x
 have hoy : (nextG g).1.y < 16 := hdec.y
 have hon : (nextG g).1.n < 16 := hdec.n
 have hst3 : g.st.length ≤ 12 := by unfold checkE at hc0; split at hc0 <;> omega
 have hml3 : g.mm.length = 3232 := by unfold checkE at hc0; split at hc0 <;> omega
 have hpl3 : g.pg.length = 256 := by unfold checkE at hc0; split at hc0 <;> omega
 have hg1 : OkG { g with PC := IntKind.u16.wrap (g.PC + 2) } := ⟨hg.V,hg.Vb,hg.I,by
   show 0 ≤ IntKind.u16.wrap (g.PC + 2) ∧ IntKind.u16.wrap (g.PC + 2) ≤ 65535
   rw [IntKind.wrap_u16]
   omega,hg.st,hg.dl,hg.sd,hg.pg,hg.mm⟩
 refine SX.region_d [some 45,some 46,some 47,some 48,some 49,some 44,some 50,some 51,none,some 11] rfl (fun ops hops=>?_)
 unfold Dsts at hops
 simp (dsimp:=false)(disch:=omega) only [go_sem,Φa,hP,h4_3,h4_4,h4_5,h4_6,h4_10,h4_11,h4_34,hops]
 ((iterate 23 refine ⟨_,Cell.at 0 rfl rfl,?_⟩); rw [lit_g (g := { g with PC := IntKind.u16.wrap (g.PC + 2) })])
 try refine stI ?_
 try simp (dsimp:=false)(disch:=omega) only [go_sem,Φa,hP,h4_3,h4_4,h4_5,h4_6,h4_10,h4_11,h4_34,hops]
 (iterate 6 refine ⟨_,Cell.at 4 rfl rfl,?_⟩)
 try refine stI ?_
 try simp (dsimp:=false)(disch:=omega) only [go_sem,Φa,hP,h4_3,h4_4,h4_5,h4_6,h4_10,h4_11,h4_34,hops]
 (iterate 18 refine ⟨_,Cell.at 7 rfl rfl,?_⟩)
 try refine stI ?_
 try simp (dsimp:=false)(disch:=omega) only [go_sem,Φa,hP,h4_3,h4_4,h4_5,h4_6,h4_10,h4_11,h4_34,hops]
 (iterate 3 refine ⟨_,Cell.at 6 rfl rfl,?_⟩)
 try refine stI ?_
 try simp (dsimp:=false)(disch:=omega) only [go_sem,Φa,hP,h4_3,h4_4,h4_5,h4_6,h4_10,h4_11,h4_34,hops]
 refine SCall.mono (SCall.of_less lessIn (refdo_spec (g := { g with PC := IntKind.u16.wrap (g.PC + 2) }) (o := (nextG g).1) (f := f) (d := d) (L := _ :: _ :: _ :: _ :: _ :: _ :: L) hP ⟨hrc.st,hrc.pg,hrc.mm⟩ hg1 hF hoo hd (SlI.cons _ (SlI.cons _ (SlI.cons _ (SlI.cons _ (SlI.cons _ (SlI.cons _ hf)))))) hml3 hpl3 hst3 (by simp at hc26; omega) hon hox hoy ⟨hop2,hop3⟩)) ?_
 rintro v_ L_ ⟨g9,sv9,pv9,mv9,u1,u2,u3,rfl,rfl,hr9,h9⟩
 obtain ⟨A7,c7,hv7,_,_⟩ := Row.form hr9.st
 obtain ⟨A8,c8,hv8,_,_⟩ := Row.form hr9.pg
 obtain ⟨A9,c9,hv9,_,_⟩ := Row.form hr9.mm
 subst hv7 hv8 hv9
 try refine stI ?_
 try simp (dsimp:=false)(disch:=omega) only [go_sem,Φa,hP,h4_3,h4_4,h4_5,h4_6,h4_10,h4_11,h4_34,hops]
 refine ⟨rfl,rfl,3,_,_,_,rfl,Nat.le_refl 23,.inr (Nat.zero_le 0),?_⟩
 try refine stI ?_
 try simp (dsimp:=false)(disch:=omega) only [go_sem,Φa,hP,h4_3,h4_4,h4_5,h4_6,h4_10,h4_11,h4_34,hops]
 rw [put_g rfl]
 refine hK19 _ _ ?_
 try clear hK19 K19
 refine SX.live [3,6,11,12] (fun T5 hT5=>?_)
 simp only [forall_mem_cons',forall_mem_nil',go_sem,Φa,hP,h4_3,h4_4,h4_5,h4_6,h4_10,h4_11,h4_34] at hT5
 obtain ⟨h5_3,h5_6,h5_11,h5_12⟩ := hT5
 clear h4_3 h4_4 h4_5 h4_6 h4_10 h4_11 h4_34 T4
 refine SX.seq_k fun K20 hK20=>?_
 refine SX.seq_k fun K21 hK21=>?_
 refine SX.region_d [some 52,some 53] rfl (fun ops hops=>?_)
 unfold Dsts at hops
 simp (dsimp:=false)(disch:=omega) only [go_sem,Φa,hP,h5_3,h5_6,h5_11,h5_12,hops]
 repeat' ((first | refine And.intro (by omega) ?_ | fail); try refine stI ?_; try simp (dsimp:=false)(disch:=omega) only [go_sem,Φa,hP,h5_3,h5_6,h5_11,h5_12,hops])
 refine hK21 _ _ ?_
 try clear hK21 K21
 refine SX.cond_k fun X22 Y22 hX22 hY22=>?_
 simp (dsimp:=false)(disch:=omega) only [go_sem,Φa,hP,h5_3,h5_6,h5_11,h5_12,condVC]
 refine ⟨fun hc53=>hX22 ?_,fun hc53=>hY22 ?_⟩
 ·clear hX22 hY22 X22 Y22
  refine SX.seq_k fun K23 hK23=>?_
  refine SX.region_d [some 54,some 55,some 56,none,some 7,some 8] rfl (fun ops hops=>?_)
  unfold Dsts at hops
  simp (dsimp:=false)(disch:=omega) only [go_sem,Φa,hP,h5_3,h5_6,h5_11,h5_12,hops]
  ((iterate 23 refine ⟨_,Cell.at 8 rfl rfl,?_⟩); rw [lit_g])
  try refine stI ?_
  try simp (dsimp:=false)(disch:=omega) only [go_sem,Φa,hP,h5_3,h5_6,h5_11,h5_12,hops]
  refine SCall.mono (Copied_spec (g := g) (sv := .slice As g.st.length cs) (pv := .slice Ap g.pg.length cp) (mv := .slice Am g.mm.length cm) hP (SlI.cons _ (SlI.cons _ (SlI.cons _ (SlI.cons _ (SlI.cons _ (SlI.cons _ (SlI.cons _ (SlI.cons _ (SlI.cons _ hs))))))))) (SlI.cons _ (SlI.cons _ (SlI.cons _ (SlI.cons _ (SlI.cons _ (SlI.cons _ (SlI.cons _ (SlI.cons _ (SlI.cons _ hp))))))))) (SlI.cons _ (SlI.cons _ (SlI.cons _ (SlI.cons _ (SlI.cons _ (SlI.cons _ (SlI.cons _ (SlI.cons _ (SlI.cons _ hm))))))))) hsl2 hpl2 hml2) ?_
  rintro v_ L_ ⟨sv',pv',mv',w1,w2,w3,rfl,rfl,hrd⟩
  obtain ⟨Y1,Y4,rfl,hz1⟩ := rowShape hrd.st
  obtain ⟨Y2,Y5,rfl,hz2⟩ := rowShape hrd.pg
  obtain ⟨Y3,Y6,rfl,hz3⟩ := rowShape hrd.mm
  try refine stI ?_
  try simp (dsimp:=false)(disch:=omega) only [go_sem,Φa,hP,h5_3,h5_6,h5_11,h5_12,hops]
  refine ⟨rfl,rfl,8,_,_,_,rfl,Nat.le_refl 23,.inr (Nat.zero_le 0),?_⟩
  try refine stI ?_
  try simp (dsimp:=false)(disch:=omega) only [go_sem,Φa,hP,h5_3,h5_6,h5_11,h5_12,hops]
  rw [put_g rfl]
  refine hK23 _ _ ?_
  try clear hK23 K23
  refine SX.ret ?_
  simp only [andThen_normal,andThen_ret,andThen_exit,inBlk_normal,inBlk_ret,inBlk_exit,Nat.reduceEqDiff,if_true,if_false,↓reduceIte,retQ_ret]
  try simp only [res0,res1,res2,res3,stK_e,resX,resK,oneOr,ld_ptr,loadVC,loadN,List.nil_append,List.cons_append,Nat.reduceAdd,Nat.add_zero,Nat.zero_add,Addr.add_lit,Addr.add_zero',add_addS,T.elA_27,T.lay_27,T.szA_27,T.zr_27,Tryz.underlying27,go_sem,Φa,hP,h5_3,h5_6,h5_11,h5_12]
  refine ⟨_,_,Less.sublist (.cons_cons _ (.cons_cons _ (.cons_cons _ (.cons _ (.cons _ (.cons _ (.cons _ (.cons _ (.cons _ (.cons _ (.cons _ (.cons _ (List.Sublist.refl _))))))))))))),⟨_,Cell.at 8 rfl rfl,_,Cell.at 8 rfl rfl,_,Cell.at 8 rfl rfl,_,Cell.at 8 rfl rfl,_,Cell.at 8 rfl rfl,_,Cell.at 8 rfl rfl,_,Cell.at 8 rfl rfl,_,Cell.at 8 rfl rfl,_,Cell.at 8 rfl rfl,_,Cell.at 8 rfl rfl,_,Cell.at 8 rfl rfl,_,Cell.at 8 rfl rfl,_,Cell.at 8 rfl rfl,_,Cell.at 8 rfl rfl,_,Cell.at 8 rfl rfl,_,Cell.at 8 rfl rfl,_,Cell.at 8 rfl rfl,_,Cell.at 8 rfl rfl,_,Cell.at 8 rfl rfl,_,Cell.at 8 rfl rfl,_,Cell.at 8 rfl rfl,_,Cell.at 8 rfl rfl,_,Cell.at 8 rfl rfl,rfl⟩,?_⟩
  unfold stepG
  rw [if_neg (by omega),if_neg (by simp at hc26; omega),if_neg (by simpa using hc34)]
  dsimp only
  rw [if_pos (by simpa using hc53)]
  exact ⟨_,_,_,w1,w2,w3,rfl,rfl,hrd⟩
 clear hX22 hY22 X22 Y22
 refine SX.skip ?_
 try simp only [andThen_normal,andThen_ret,andThen_exit,inBlk_normal,inBlk_ret,inBlk_exit,Nat.reduceEqDiff,if_true,if_false,↓reduceIte]
 refine hK20 _ _ ?_
 try clear hK20 K20
 refine SX.seq_k fun K24 hK24=>?_
 refine SX.region_d [some 57,none,some 7,some 8] rfl (fun ops hops=>?_)
 unfold Dsts at hops
 simp (dsimp:=false)(disch:=omega) only [go_sem,Φa,hP,h5_3,h5_6,h5_11,h5_12,hops]
 ((iterate 23 refine ⟨_,Cell.at 3 rfl rfl,?_⟩); rw [lit_g (g := g9)])
 try refine stI ?_
 try simp (dsimp:=false)(disch:=omega) only [go_sem,Φa,hP,h5_3,h5_6,h5_11,h5_12,hops]
 refine ⟨rfl,rfl,5,_,_,_,rfl,Nat.le_refl 23,.inr (Nat.zero_le 0),?_⟩
 try refine stI ?_
 try simp (dsimp:=false)(disch:=omega) only [go_sem,Φa,hP,h5_3,h5_6,h5_11,h5_12,hops]
 rw [put_g rfl]
 refine hK24 _ _ ?_
 try clear hK24 K24
 refine SX.ret ?_
 simp only [andThen_normal,andThen_ret,andThen_exit,inBlk_normal,inBlk_ret,inBlk_exit,Nat.reduceEqDiff,if_true,if_false,↓reduceIte,retQ_ret]
 try simp only [res0,res1,res2,res3,stK_e,resX,resK,oneOr,ld_ptr,loadVC,loadN,List.nil_append,List.cons_append,Nat.reduceAdd,Nat.add_zero,Nat.zero_add,Addr.add_lit,Addr.add_zero',add_addS,T.elA_27,T.lay_27,T.szA_27,T.zr_27,Tryz.underlying27,go_sem,Φa,hP,h5_3,h5_6,h5_11,h5_12]
 refine ⟨_,_,Less.sublist (.cons_cons _ (.cons_cons _ (.cons_cons _ (.cons _ (.cons _ (.cons _ (.cons _ (.cons _ (.cons _ (List.Sublist.refl _)))))))))),⟨_,Cell.at 5 rfl rfl,_,Cell.at 5 rfl rfl,_,Cell.at 5 rfl rfl,_,Cell.at 5 rfl rfl,_,Cell.at 5 rfl rfl,_,Cell.at 5 rfl rfl,_,Cell.at 5 rfl rfl,_,Cell.at 5 rfl rfl,_,Cell.at 5 rfl rfl,_,Cell.at 5 rfl rfl,_,Cell.at 5 rfl rfl,_,Cell.at 5 rfl rfl,_,Cell.at 5 rfl rfl,_,Cell.at 5 rfl rfl,_,Cell.at 5 rfl rfl,_,Cell.at 5 rfl rfl,_,Cell.at 5 rfl rfl,_,Cell.at 5 rfl rfl,_,Cell.at 5 rfl rfl,_,Cell.at 5 rfl rfl,_,Cell.at 5 rfl rfl,_,Cell.at 5 rfl rfl,_,Cell.at 5 rfl rfl,rfl⟩,?_⟩
 have h9e := h9 (by simpa using hc53)
 unfold stepG
 rw [if_neg (by omega),if_neg (by simp at hc26; omega),if_neg (by simpa using hc34)]
 dsimp only
 rw [if_neg (by simpa using hc53),← h9e]
 exact ⟨_,_,_,u1,u2,u3,rfl,rfl,hr9⟩

end Go.Proofs.YtgioegdjeodpiaaGreat
namespace Go.Proofs.YtgioegdjeodpiaaGreat
open Go.RowKit Go.SX
open Go.SX renaming ia_someH → Φa

theorem stepG_small {g : GM} {f : Fnt} {d : Feed} (h : OkG g) (hf : OkF f) (hd : OkD d) : (stepG g f d).1.st.length ≤ 12 ∧ (stepG g f d).1.pg.length ≤ 256 ∧ (stepG g f d).1.mm.length ≤ 3232 := by
 have hz : zeroG.st.length ≤ 12 ∧ zeroG.pg.length ≤ 256 ∧ zeroG.mm.length ≤ 3232 := ⟨by decide,by decide,by decide⟩
 by_cases hc : checkE g = 0
 ·by_cases he : (stepG g f d).2.2 = 0
  ·have hF := (fine_of h hc).step hf hd he
   exact ⟨hF.st,Nat.le_of_eq hF.pg,Nat.le_of_eq hF.mm⟩
  unfold stepG at he ⊢
  rw [if_neg (by omega)] at he ⊢
  split
  ·exact hz
  rename_i h2
  rw [if_neg h2] at he
  split at he
  ·exact absurd rfl he
  dsimp only at he
  split at he <;> exact absurd rfl he
 unfold stepG
 rw [if_pos hc]
 exact hz
theorem tickG_small {g : GM} (h : OkG g) : (tickG g).st.length ≤ 12 ∧ (tickG g).pg.length ≤ 256 ∧ (tickG g).mm.length ≤ 3232 := by
 by_cases hc : checkE g = 0
 ·have hF := (fine_of h hc).tick
  exact ⟨hF.st,Nat.le_of_eq hF.pg,Nat.le_of_eq hF.mm⟩
 unfold tickG
 rw [if_pos hc]
 exact ⟨by decide,by decide,by decide⟩
theorem set_dlG {g : GM} {sv pv mv : Value} (x : Int) : (g.cells sv pv mv).set 19 (.int .u8 x) = GM.cells { g with dl := x } sv pv mv := rfl
theorem set_sdG {g : GM} {sv pv mv : Value} (x : Int) : (g.cells sv pv mv).set 20 (.int .u8 x) = GM.cells { g with sd := x } sv pv mv := rfl
set_option maxHeartbeats 1000000 in
set_option maxRecDepth 100000 in
theorem refTick_spec {Γ : Ctx} (hP : Γ.P = Tryz.prog) {L : Hp} {g : GM} {sv pv mv : Value} (hg : OkG g) (hs : SlI .u16 (Cell Γ L) sv g.st) (hp : SlI .u8 (Cell Γ L) pv g.pg) (hm : SlI .u8 (Cell Γ L) mv g.mm) (hsl : g.st.length ≤ 2147483647) (hpl : g.pg.length ≤ 2147483647) (hml : g.mm.length ≤ 2147483647) :
  SCall Γ 11 #[(.agg (g.cells sv pv mv).toArray)] L (cloneG (tickG g) L) := by
 obtain ⟨As,cs,rfl,hcs⟩ := slShape hs
 obtain ⟨Ap,cp,rfl,hcp⟩ := slShape hp
 obtain ⟨Am,cm,rfl,hcm⟩ := slShape hm
 have hdl := hg.dl
 have hsd := hg.sd
 refine SCall.enter (n := 24) (resX Γ [.cell 2 27]) (hP ▸ Tryz.func11) rfl rfl (by simp) (resX_ok rfl) ?_
 refine SX.seq_k fun K1 hK1=>?_
 refine SX.region_d [some 1,some 2] rfl (fun ops hops=>?_)
 unfold Dsts at hops
 simp (dsimp:=false)(disch:=omega) only [go_sem,Φa,hP,hops]
 intro b0
 try refine stI ?_
 try simp (dsimp:=false)(disch:=omega) only [go_sem,Φa,hP,hops]
 intro b1
 try refine stI ?_
 try simp (dsimp:=false)(disch:=omega) only [go_sem,Φa,hP,hops]
 refine hK1 _ _ ?_
 try clear hK1 K1
 refine SX.seq_k fun K2 hK2=>?_
 refine SX.seq_k fun K3 hK3=>?_
 refine SX.region_d [some 3,some 4,some 5] rfl (fun ops hops=>?_)
 unfold Dsts at hops
 simp (dsimp:=false)(disch:=omega) only [go_sem,Φa,hP,hops]
 ((iterate 23 refine ⟨_,Cell.at 1 rfl rfl,?_⟩); rw [lit_g])
 try refine stI ?_
 try simp (dsimp:=false)(disch:=omega) only [go_sem,Φa,hP,hops]
 refine SCall.mono (refCheck_spec (g := g) (sv := .slice As g.st.length cs) (pv := .slice Ap g.pg.length cp) (mv := .slice Am g.mm.length cm) hP (SlI.cons _ (SlI.cons _ hs)) (SlI.cons _ (SlI.cons _ hp)) (SlI.cons _ (SlI.cons _ hm)) (by omega) (by omega) (by omega)) ?_
 rintro v_ L_ ⟨hv_,hL_⟩
 rw [hv_,hL_]
 clear hv_ hL_ v_ L_
 try refine stI ?_
 try simp (dsimp:=false)(disch:=omega) only [go_sem,Φa,hP,hops]
 refine hK3 _ _ ?_
 try clear hK3 K3
 refine SX.cond_k fun X4 Y4 hX4 hY4=>?_
 simp (dsimp:=false)(disch:=omega) only [go_sem,Φa,hP,condVC]
 refine ⟨fun hc5=>hX4 ?_,fun hc5=>hY4 ?_⟩
 ·clear hX4 hY4 X4 Y4
  refine SX.seq_k fun K5 hK5=>?_
  refine SX.region_d [some 6,none] rfl (fun ops hops=>?_)
  unfold Dsts at hops
  simp (dsimp:=false)(disch:=omega) only [go_sem,Φa,hP,hops]
  refine ⟨0,_,_,_,rfl,by decide,.inr (by decide),?_⟩
  try refine stI ?_
  try simp (dsimp:=false)(disch:=omega) only [go_sem,Φa,hP,hops]
  refine hK5 _ _ ?_
  try clear hK5 K5
  refine SX.ret ?_
  simp only [andThen_normal,andThen_ret,andThen_exit,inBlk_normal,inBlk_ret,inBlk_exit,Nat.reduceEqDiff,if_true,if_false,↓reduceIte,retQ_ret]
  try simp only [res0,res1,res2,res3,stK_e,resX,resK,oneOr,ld_ptr,loadVC,loadN,List.nil_append,List.cons_append,Nat.reduceAdd,Nat.add_zero,Nat.zero_add,Addr.add_lit,Addr.add_zero',add_addS,T.elA_27,T.lay_27,T.szA_27,T.zr_27,Tryz.underlying27,go_sem,Φa,hP]
  refine ⟨_,_,(Less.drops (Less.drop _ _)).trans ((Less.none _).trans ((Less.none _).trans (Less.none _))),⟨_,Cell.at 0 rfl rfl,_,Cell.at 0 rfl rfl,_,Cell.at 0 rfl rfl,_,Cell.at 0 rfl rfl,_,Cell.at 0 rfl rfl,_,Cell.at 0 rfl rfl,_,Cell.at 0 rfl rfl,_,Cell.at 0 rfl rfl,_,Cell.at 0 rfl rfl,_,Cell.at 0 rfl rfl,_,Cell.at 0 rfl rfl,_,Cell.at 0 rfl rfl,_,Cell.at 0 rfl rfl,_,Cell.at 0 rfl rfl,_,Cell.at 0 rfl rfl,_,Cell.at 0 rfl rfl,_,Cell.at 0 rfl rfl,_,Cell.at 0 rfl rfl,_,Cell.at 0 rfl rfl,_,Cell.at 0 rfl rfl,_,Cell.at 0 rfl rfl,_,Cell.at 0 rfl rfl,_,Cell.at 0 rfl rfl,rfl⟩,?_⟩
  unfold tickG
  rw [if_pos (by simpa using hc5)]
  exact ⟨_,_,_,_,_,_,rfl,rfl,⟨RowI.nil _ _,RowI.nil _ _,RowI.nil _ _⟩⟩
 clear hX4 hY4 X4 Y4
 refine SX.skip ?_
 try simp only [andThen_normal,andThen_ret,andThen_exit,inBlk_normal,inBlk_ret,inBlk_exit,Nat.reduceEqDiff,if_true,if_false,↓reduceIte]
 refine hK2 _ _ ?_
 try clear hK2 K2
 refine SX.seq_k fun K6 hK6=>?_
 have hck0 : checkE g = 0 := by omega
 have hsl2 : g.st.length ≤ 1000000 := by unfold checkE at hck0; split at hck0 <;> omega
 have hpl2 : g.pg.length ≤ 1000000 := by unfold checkE at hck0; split at hck0 <;> omega
 have hml2 : g.mm.length ≤ 1000000 := by unfold checkE at hck0; split at hck0 <;> omega
 refine SX.region_d [some 7,some 8,none] rfl (fun ops hops=>?_)
 unfold Dsts at hops
 simp (dsimp:=false)(disch:=omega) only [go_sem,Φa,hP,hops]
 ((iterate 23 refine ⟨_,Cell.at 1 rfl rfl,?_⟩); rw [lit_g])
 try refine stI ?_
 try simp (dsimp:=false)(disch:=omega) only [go_sem,Φa,hP,hops]
 refine SCall.mono (Copied_spec (g := g) (sv := .slice As g.st.length cs) (pv := .slice Ap g.pg.length cp) (mv := .slice Am g.mm.length cm) hP (SlI.cons _ (SlI.cons _ hs)) (SlI.cons _ (SlI.cons _ hp)) (SlI.cons _ (SlI.cons _ hm)) hsl2 hpl2 hml2) ?_
 rintro v_ L_ ⟨sv',pv',mv',t1,t2,t3,rfl,rfl,hrc⟩
 obtain ⟨Y1,Y4,rfl,hz1⟩ := rowShape hrc.st
 obtain ⟨Y2,Y5,rfl,hz2⟩ := rowShape hrc.pg
 obtain ⟨Y3,Y6,rfl,hz3⟩ := rowShape hrc.mm
 try refine stI ?_
 try simp (dsimp:=false)(disch:=omega) only [go_sem,Φa,hP,hops]
 refine ⟨rfl,rfl,4,_,_,_,rfl,Nat.le_refl 23,.inr (Nat.zero_le 0),?_⟩
 try refine stI ?_
 try simp (dsimp:=false)(disch:=omega) only [go_sem,Φa,hP,hops]
 rw [put_g rfl]
 refine hK6 _ _ ?_
 try clear hK6 K6
 refine SX.seq_k fun K7 hK7=>?_
 refine SX.seq_k fun K8 hK8=>?_
 refine SX.region_d [some 9,some 10,some 11] rfl (fun ops hops=>?_)
 unfold Dsts at hops
 simp (dsimp:=false)(disch:=omega) only [go_sem,Φa,hP,hops]
 refine ⟨_,Cell.at 4 rfl (show (GM.cells _ _ _ _)[19]? = _ from rfl),?_⟩
 try refine stI ?_
 try simp (dsimp:=false)(disch:=omega) only [go_sem,Φa,hP,hops]
 refine hK8 _ _ ?_
 try clear hK8 K8
 refine SX.live [1,2,11] (fun T1 hT1=>?_)
 simp only [forall_mem_cons',forall_mem_nil',go_sem,Φa,hP] at hT1
 obtain ⟨h1_1,h1_2,h1_11⟩ := hT1
 refine SX.cond_k fun X9 Y9 hX9 hY9=>?_
 simp (dsimp:=false)(disch:=omega) only [go_sem,Φa,hP,h1_1,h1_2,h1_11,condVC]
 refine ⟨fun hc11=>hX9 ?_,fun hc11=>hY9 ?_⟩
 ·clear hX9 hY9 X9 Y9
  refine SX.region_d [some 12,some 13,some 14,some 15,none] rfl (fun ops hops=>?_)
  unfold Dsts at hops
  simp (dsimp:=false)(disch:=omega) only [go_sem,Φa,hP,h1_1,h1_2,h1_11,hops]
  refine ⟨_,Cell.at 4 rfl (show (GM.cells _ _ _ _)[19]? = _ from rfl),?_⟩
  try refine stI ?_
  try simp (dsimp:=false)(disch:=omega) only [go_sem,Φa,hP,h1_1,h1_2,h1_11,hops]
  refine ⟨4,_,_,_,rfl,(by simp [GM.cells]),.inr (Nat.zero_le _),?_⟩
  try refine stI ?_
  try simp (dsimp:=false)(disch:=omega) only [go_sem,Φa,hP,h1_1,h1_2,h1_11,hops]
  rw [set_dlG]
  refine hK7 _ _ ?_
  try clear hK7 K7
  refine SX.seq_k fun K10 hK10=>?_
  refine SX.seq_k fun K11 hK11=>?_
  refine SX.region_d [some 16,some 17,some 18] rfl (fun ops hops=>?_)
  unfold Dsts at hops
  simp (dsimp:=false)(disch:=omega) only [go_sem,Φa,hP,h1_1,h1_2,h1_11,hops]
  refine ⟨_,Cell.at 4 rfl (show (GM.cells _ _ _ _)[20]? = _ from rfl),?_⟩
  try refine stI ?_
  try simp (dsimp:=false)(disch:=omega) only [go_sem,Φa,hP,h1_1,h1_2,h1_11,hops]
  refine hK11 _ _ ?_
  try clear hK11 K11
  refine SX.cond_k fun X12 Y12 hX12 hY12=>?_
  simp (dsimp:=false)(disch:=omega) only [go_sem,Φa,hP,h1_1,h1_2,h1_11,condVC]
  refine ⟨fun hc18=>hX12 ?_,fun hc18=>hY12 ?_⟩
  ·clear hX12 hY12 X12 Y12
   refine SX.region_d [some 19,some 20,some 21,some 22,none] rfl (fun ops hops=>?_)
   unfold Dsts at hops
   simp (dsimp:=false)(disch:=omega) only [go_sem,Φa,hP,h1_1,h1_2,h1_11,hops]
   refine ⟨_,Cell.at 4 rfl (show (GM.cells _ _ _ _)[20]? = _ from rfl),?_⟩
   try refine stI ?_
   try simp (dsimp:=false)(disch:=omega) only [go_sem,Φa,hP,h1_1,h1_2,h1_11,hops]
   refine ⟨4,_,_,_,rfl,(by simp [GM.cells]),.inr (Nat.zero_le _),?_⟩
   try refine stI ?_
   try simp (dsimp:=false)(disch:=omega) only [go_sem,Φa,hP,h1_1,h1_2,h1_11,hops]
   rw [set_sdG]
   refine hK10 _ _ ?_
   try clear hK10 K10
   refine SX.live [1,2] (fun T2 hT2=>?_)
   simp only [forall_mem_cons',forall_mem_nil',go_sem,Φa,hP,h1_1,h1_2,h1_11] at hT2
   obtain ⟨h2_1,h2_2⟩ := hT2
   clear h1_1 h1_2 h1_11 T1
   refine SX.seq_k fun K13 hK13=>?_
   refine SX.region_d [some 23,none] rfl (fun ops hops=>?_)
   unfold Dsts at hops
   simp (dsimp:=false)(disch:=omega) only [go_sem,Φa,hP,h2_1,h2_2,hops]
   (iterate 23 refine ⟨_,Cell.at 4 rfl rfl,?_⟩)
   try refine stI ?_
   try simp (dsimp:=false)(disch:=omega) only [go_sem,Φa,hP,h2_1,h2_2,hops]
   refine ⟨3,_,_,_,rfl,by decide,.inr (by decide),?_⟩
   try refine stI ?_
   try simp (dsimp:=false)(disch:=omega) only [go_sem,Φa,hP,h2_1,h2_2,hops]
   refine hK13 _ _ ?_
   try clear hK13 K13
   refine SX.ret ?_
   simp only [andThen_normal,andThen_ret,andThen_exit,inBlk_normal,inBlk_ret,inBlk_exit,Nat.reduceEqDiff,if_true,if_false,↓reduceIte,retQ_ret]
   try simp only [res0,res1,res2,res3,stK_e,resX,resK,oneOr,ld_ptr,loadVC,loadN,List.nil_append,List.cons_append,Nat.reduceAdd,Nat.add_zero,Nat.zero_add,Addr.add_lit,Addr.add_zero',add_addS,T.elA_27,T.lay_27,T.szA_27,T.zr_27,Tryz.underlying27,go_sem,Φa,hP,h2_1,h2_2]
   refine ⟨_,_,Less.sublist (.cons_cons _ (.cons_cons _ (.cons_cons _ (.cons _ (.cons _ (List.Sublist.refl _)))))),⟨_,Cell.at 3 rfl rfl,_,Cell.at 3 rfl rfl,_,Cell.at 3 rfl rfl,_,Cell.at 3 rfl rfl,_,Cell.at 3 rfl rfl,_,Cell.at 3 rfl rfl,_,Cell.at 3 rfl rfl,_,Cell.at 3 rfl rfl,_,Cell.at 3 rfl rfl,_,Cell.at 3 rfl rfl,_,Cell.at 3 rfl rfl,_,Cell.at 3 rfl rfl,_,Cell.at 3 rfl rfl,_,Cell.at 3 rfl rfl,_,Cell.at 3 rfl rfl,_,Cell.at 3 rfl rfl,_,Cell.at 3 rfl rfl,_,Cell.at 3 rfl rfl,_,Cell.at 3 rfl rfl,_,Cell.at 3 rfl rfl,_,Cell.at 3 rfl rfl,_,Cell.at 3 rfl rfl,_,Cell.at 3 rfl rfl,rfl⟩,?_⟩
   unfold tickG
   rw [if_neg (by simpa using hc5)]
   rw [show tickK g 2 = ({ g with dl := g.dl - 1,sd := g.sd - 1 } : GM) from by show ({ g with dl := decB g.dl,sd := decB g.sd } : GM) = _; rw [decB_pos (show 0 < g.dl by omega),decB_pos (show 0 < g.sd by omega)]]
   exact ⟨_,_,_,t1,t2,t3,rfl,rfl,⟨hrc.st,hrc.pg,hrc.mm⟩⟩
  clear hX12 hY12 X12 Y12
  refine SX.skip ?_
  try simp only [andThen_normal,andThen_ret,andThen_exit,inBlk_normal,inBlk_ret,inBlk_exit,Nat.reduceEqDiff,if_true,if_false,↓reduceIte]
  refine hK10 _ _ ?_
  try clear hK10 K10
  refine SX.seq_k fun K14 hK14=>?_
  refine SX.region_d [some 23,none] rfl (fun ops hops=>?_)
  unfold Dsts at hops
  simp (dsimp:=false)(disch:=omega) only [go_sem,Φa,hP,h1_1,h1_2,h1_11,hops]
  (iterate 23 refine ⟨_,Cell.at 4 rfl rfl,?_⟩)
  try refine stI ?_
  try simp (dsimp:=false)(disch:=omega) only [go_sem,Φa,hP,h1_1,h1_2,h1_11,hops]
  refine ⟨3,_,_,_,rfl,by decide,.inr (by decide),?_⟩
  try refine stI ?_
  try simp (dsimp:=false)(disch:=omega) only [go_sem,Φa,hP,h1_1,h1_2,h1_11,hops]
  refine hK14 _ _ ?_
  try clear hK14 K14
  refine SX.ret ?_
  simp only [andThen_normal,andThen_ret,andThen_exit,inBlk_normal,inBlk_ret,inBlk_exit,Nat.reduceEqDiff,if_true,if_false,↓reduceIte,retQ_ret]
  try simp only [res0,res1,res2,res3,stK_e,resX,resK,oneOr,ld_ptr,loadVC,loadN,List.nil_append,List.cons_append,Nat.reduceAdd,Nat.add_zero,Nat.zero_add,Addr.add_lit,Addr.add_zero',add_addS,T.elA_27,T.lay_27,T.szA_27,T.zr_27,Tryz.underlying27,go_sem,Φa,hP,h1_1,h1_2,h1_11]
  refine ⟨_,_,Less.sublist (.cons_cons _ (.cons_cons _ (.cons_cons _ (.cons _ (.cons _ (List.Sublist.refl _)))))),⟨_,Cell.at 3 rfl rfl,_,Cell.at 3 rfl rfl,_,Cell.at 3 rfl rfl,_,Cell.at 3 rfl rfl,_,Cell.at 3 rfl rfl,_,Cell.at 3 rfl rfl,_,Cell.at 3 rfl rfl,_,Cell.at 3 rfl rfl,_,Cell.at 3 rfl rfl,_,Cell.at 3 rfl rfl,_,Cell.at 3 rfl rfl,_,Cell.at 3 rfl rfl,_,Cell.at 3 rfl rfl,_,Cell.at 3 rfl rfl,_,Cell.at 3 rfl rfl,_,Cell.at 3 rfl rfl,_,Cell.at 3 rfl rfl,_,Cell.at 3 rfl rfl,_,Cell.at 3 rfl rfl,_,Cell.at 3 rfl rfl,_,Cell.at 3 rfl rfl,_,Cell.at 3 rfl rfl,_,Cell.at 3 rfl rfl,rfl⟩,?_⟩
  unfold tickG
  rw [if_neg (by simpa using hc5)]
  rw [show tickK g 2 = ({ g with dl := g.dl - 1 } : GM) from by show ({ g with dl := decB g.dl,sd := decB g.sd } : GM) = _; rw [decB_pos (show 0 < g.dl by omega),decB_neg (show ¬ 0 < g.sd by omega)]]
  exact ⟨_,_,_,t1,t2,t3,rfl,rfl,⟨hrc.st,hrc.pg,hrc.mm⟩⟩
 clear hX9 hY9 X9 Y9
 refine SX.skip ?_
 try simp only [andThen_normal,andThen_ret,andThen_exit,inBlk_normal,inBlk_ret,inBlk_exit,Nat.reduceEqDiff,if_true,if_false,↓reduceIte]
 refine hK7 _ _ ?_
 try clear hK7 K7
 refine SX.seq_k fun K15 hK15=>?_
 refine SX.seq_k fun K16 hK16=>?_
 refine SX.region_d [some 16,some 17,some 18] rfl (fun ops hops=>?_)
 unfold Dsts at hops
 simp (dsimp:=false)(disch:=omega) only [go_sem,Φa,hP,h1_1,h1_2,h1_11,hops]
 refine ⟨_,Cell.at 4 rfl (show (GM.cells _ _ _ _)[20]? = _ from rfl),?_⟩
 try refine stI ?_
 try simp (dsimp:=false)(disch:=omega) only [go_sem,Φa,hP,h1_1,h1_2,h1_11,hops]
 refine hK16 _ _ ?_
 try clear hK16 K16
 refine SX.cond_k fun X17 Y17 hX17 hY17=>?_
 simp (dsimp:=false)(disch:=omega) only [go_sem,Φa,hP,h1_1,h1_2,h1_11,condVC]
 refine ⟨fun hc18=>hX17 ?_,fun hc18=>hY17 ?_⟩
 ·clear hX17 hY17 X17 Y17
  refine SX.region_d [some 19,some 20,some 21,some 22,none] rfl (fun ops hops=>?_)
  unfold Dsts at hops
  simp (dsimp:=false)(disch:=omega) only [go_sem,Φa,hP,h1_1,h1_2,h1_11,hops]
  refine ⟨_,Cell.at 4 rfl (show (GM.cells _ _ _ _)[20]? = _ from rfl),?_⟩
  try refine stI ?_
  try simp (dsimp:=false)(disch:=omega) only [go_sem,Φa,hP,h1_1,h1_2,h1_11,hops]
  refine ⟨4,_,_,_,rfl,(by simp [GM.cells]),.inr (Nat.zero_le _),?_⟩
  try refine stI ?_
  try simp (dsimp:=false)(disch:=omega) only [go_sem,Φa,hP,h1_1,h1_2,h1_11,hops]
  rw [set_sdG]
  refine hK15 _ _ ?_
  try clear hK15 K15
  refine SX.seq_k fun K18 hK18=>?_
  refine SX.region_d [some 23,none] rfl (fun ops hops=>?_)
  unfold Dsts at hops
  simp (dsimp:=false)(disch:=omega) only [go_sem,Φa,hP,h1_1,h1_2,h1_11,hops]
  (iterate 23 refine ⟨_,Cell.at 4 rfl rfl,?_⟩)
  try refine stI ?_
  try simp (dsimp:=false)(disch:=omega) only [go_sem,Φa,hP,h1_1,h1_2,h1_11,hops]
  refine ⟨3,_,_,_,rfl,by decide,.inr (by decide),?_⟩
  try refine stI ?_
  try simp (dsimp:=false)(disch:=omega) only [go_sem,Φa,hP,h1_1,h1_2,h1_11,hops]
  refine hK18 _ _ ?_
  try clear hK18 K18
  refine SX.ret ?_
  simp only [andThen_normal,andThen_ret,andThen_exit,inBlk_normal,inBlk_ret,inBlk_exit,Nat.reduceEqDiff,if_true,if_false,↓reduceIte,retQ_ret]
  try simp only [res0,res1,res2,res3,stK_e,resX,resK,oneOr,ld_ptr,loadVC,loadN,List.nil_append,List.cons_append,Nat.reduceAdd,Nat.add_zero,Nat.zero_add,Addr.add_lit,Addr.add_zero',add_addS,T.elA_27,T.lay_27,T.szA_27,T.zr_27,Tryz.underlying27,go_sem,Φa,hP,h1_1,h1_2,h1_11]
  refine ⟨_,_,Less.sublist (.cons_cons _ (.cons_cons _ (.cons_cons _ (.cons _ (.cons _ (List.Sublist.refl _)))))),⟨_,Cell.at 3 rfl rfl,_,Cell.at 3 rfl rfl,_,Cell.at 3 rfl rfl,_,Cell.at 3 rfl rfl,_,Cell.at 3 rfl rfl,_,Cell.at 3 rfl rfl,_,Cell.at 3 rfl rfl,_,Cell.at 3 rfl rfl,_,Cell.at 3 rfl rfl,_,Cell.at 3 rfl rfl,_,Cell.at 3 rfl rfl,_,Cell.at 3 rfl rfl,_,Cell.at 3 rfl rfl,_,Cell.at 3 rfl rfl,_,Cell.at 3 rfl rfl,_,Cell.at 3 rfl rfl,_,Cell.at 3 rfl rfl,_,Cell.at 3 rfl rfl,_,Cell.at 3 rfl rfl,_,Cell.at 3 rfl rfl,_,Cell.at 3 rfl rfl,_,Cell.at 3 rfl rfl,_,Cell.at 3 rfl rfl,rfl⟩,?_⟩
  unfold tickG
  rw [if_neg (by simpa using hc5)]
  rw [show tickK g 2 = ({ g with sd := g.sd - 1 } : GM) from by show ({ g with dl := decB g.dl,sd := decB g.sd } : GM) = _; rw [decB_neg (show ¬ 0 < g.dl by omega),decB_pos (show 0 < g.sd by omega)]]
  exact ⟨_,_,_,t1,t2,t3,rfl,rfl,⟨hrc.st,hrc.pg,hrc.mm⟩⟩
 clear hX17 hY17 X17 Y17
 refine SX.skip ?_
 try simp only [andThen_normal,andThen_ret,andThen_exit,inBlk_normal,inBlk_ret,inBlk_exit,Nat.reduceEqDiff,if_true,if_false,↓reduceIte]
 refine hK15 _ _ ?_
 try clear hK15 K15
 refine SX.seq_k fun K19 hK19=>?_
 refine SX.region_d [some 23,none] rfl (fun ops hops=>?_)
 unfold Dsts at hops
 simp (dsimp:=false)(disch:=omega) only [go_sem,Φa,hP,h1_1,h1_2,h1_11,hops]
 (iterate 23 refine ⟨_,Cell.at 4 rfl rfl,?_⟩)
 try refine stI ?_
 try simp (dsimp:=false)(disch:=omega) only [go_sem,Φa,hP,h1_1,h1_2,h1_11,hops]
 refine ⟨3,_,_,_,rfl,by decide,.inr (by decide),?_⟩
 try refine stI ?_
 try simp (dsimp:=false)(disch:=omega) only [go_sem,Φa,hP,h1_1,h1_2,h1_11,hops]
 refine hK19 _ _ ?_
 try clear hK19 K19
 refine SX.ret ?_
 simp only [andThen_normal,andThen_ret,andThen_exit,inBlk_normal,inBlk_ret,inBlk_exit,Nat.reduceEqDiff,if_true,if_false,↓reduceIte,retQ_ret]
 try simp only [res0,res1,res2,res3,stK_e,resX,resK,oneOr,ld_ptr,loadVC,loadN,List.nil_append,List.cons_append,Nat.reduceAdd,Nat.add_zero,Nat.zero_add,Addr.add_lit,Addr.add_zero',add_addS,T.elA_27,T.lay_27,T.szA_27,T.zr_27,Tryz.underlying27,go_sem,Φa,hP,h1_1,h1_2,h1_11]
 refine ⟨_,_,Less.sublist (.cons_cons _ (.cons_cons _ (.cons_cons _ (.cons _ (.cons _ (List.Sublist.refl _)))))),⟨_,Cell.at 3 rfl rfl,_,Cell.at 3 rfl rfl,_,Cell.at 3 rfl rfl,_,Cell.at 3 rfl rfl,_,Cell.at 3 rfl rfl,_,Cell.at 3 rfl rfl,_,Cell.at 3 rfl rfl,_,Cell.at 3 rfl rfl,_,Cell.at 3 rfl rfl,_,Cell.at 3 rfl rfl,_,Cell.at 3 rfl rfl,_,Cell.at 3 rfl rfl,_,Cell.at 3 rfl rfl,_,Cell.at 3 rfl rfl,_,Cell.at 3 rfl rfl,_,Cell.at 3 rfl rfl,_,Cell.at 3 rfl rfl,_,Cell.at 3 rfl rfl,_,Cell.at 3 rfl rfl,_,Cell.at 3 rfl rfl,_,Cell.at 3 rfl rfl,_,Cell.at 3 rfl rfl,_,Cell.at 3 rfl rfl,rfl⟩,?_⟩
 unfold tickG
 rw [if_neg (by simpa using hc5)]
 rw [show tickK g 2 = g from by show ({ g with dl := decB g.dl,sd := decB g.sd } : GM) = _; rw [decB_neg (show ¬ 0 < g.dl by omega),decB_neg (show ¬ 0 < g.sd by omega)]]
 exact ⟨_,_,_,t1,t2,t3,rfl,rfl,⟨hrc.st,hrc.pg,hrc.mm⟩⟩

end Go.Proofs.YtgioegdjeodpiaaGreat
namespace Go.Proofs.YtgioegdjeodpiaaGreat
open Go.RowKit Go.SX
open Go.SX renaming ia_someH → Φa

theorem lessRows4 {m x y z o a b c : Slot} {R : Hp} : Less (m :: x :: y :: z :: o :: a :: b :: c :: R) (a :: b :: c :: m :: x :: y :: z :: o :: R) := Less.perm ((List.perm_append_comm (l₁ := [m,x,y,z,o]) (l₂ := [a,b,c])).append_right R)
theorem put_lent {g : GM} {b1 b2 b3 : Nat} {l : List Value} (h : l.length = 23) : setN l 0 (lentC g b1 b2 b3) = lentC g b1 b2 b3 := put_g (g := g) (sv := .slice (some ⟨b1,0,none⟩) g.st.length (g.st.length + 2)) (pv := .slice (some ⟨b2,0,none⟩) g.pg.length (g.pg.length + 3)) (mv := .slice (some ⟨b3,0,none⟩) g.mm.length (g.mm.length + 3)) h
def stepOR (r : GM × Int × Int) (L : Hp) (v : Value) (L' : Hp) : Prop := ∃ sv pv mv s1 s2 s3,v = .tuple #[.agg (r.1.cells sv pv mv).toArray,.int .u8 r.2.1,.bool true] ∧ L' = s1 :: s2 :: s3 :: L ∧ Rows r.1 sv pv mv s1 s2 s3
set_option maxHeartbeats 1000000 in
set_option maxRecDepth 100000 in
theorem step_spec {Γ : Ctx} (hP : Γ.P = Tryz.prog) {L : Hp} {g : GM} {sv pv mv : Value} {f : Fnt} {fv : Value} {d : Feed} (hg : OkG g) (hF : OkF f) (hd : OkD d) (hs : SlI .u16 (Cell Γ L) sv g.st) (hp : SlI .u8 (Cell Γ L) pv g.pg) (hm : SlI .u8 (Cell Γ L) mv g.mm) (hf : SlI .u8 (Cell Γ L) fv f.bs) (hsl : g.st.length ≤ 2147483647) (hpl : g.pg.length ≤ 2147483647) (hml : g.mm.length ≤ 2147483647) (hfl : f.bs.length ≤ 2147483647) :
  SCall Γ 6 #[(.agg (g.cells sv pv mv).toArray),(.agg (f.cells fv).toArray),(.agg d.cells.toArray)] L (stepOR (stepG g f d) L) := by
 obtain ⟨As,cs,rfl,hcs⟩ := slShape hs
 obtain ⟨Ap,cp,rfl,hcp⟩ := slShape hp
 obtain ⟨Am,cm,rfl,hcm⟩ := slShape hm
 obtain ⟨Af,cf,rfl,hcf⟩ := slShape hf
 have hok := stepG_ok hg hF hd
 obtain ⟨hz1,hz2,hz3⟩ := stepG_small hg hF hd
 refine SCall.enter (n := 79) (resX Γ [.cell 6 27,.tmp 7,.tmp 8]) (hP ▸ Tryz.func6) rfl rfl (by simp) (resX_ok rfl) ?_
 refine SX.seq_k fun K1 hK1=>?_
 refine SX.region_d [some 3,some 4,some 5,some 6,some 7,some 8] rfl (fun ops hops=>?_)
 unfold Dsts at hops
 simp (dsimp:=false)(disch:=omega) only [go_sem,Φa,hP,hops]
 intro b0
 try refine stI ?_
 try simp (dsimp:=false)(disch:=omega) only [go_sem,Φa,hP,hops]
 intro b1
 try refine stI ?_
 try simp (dsimp:=false)(disch:=omega) only [go_sem,Φa,hP,hops]
 intro b2
 try refine stI ?_
 try simp (dsimp:=false)(disch:=omega) only [go_sem,Φa,hP,hops]
 intro b3
 try refine stI ?_
 try simp (dsimp:=false)(disch:=omega) only [go_sem,Φa,hP,hops]
 refine hK1 _ _ ?_
 try clear hK1 K1
 refine SX.seq_k fun K2 hK2=>?_
 refine SX.region_d [some 21,some 22,some 9,none] rfl (fun ops hops=>?_)
 unfold Dsts at hops
 simp (dsimp:=false)(disch:=omega) only [go_sem,Φa,hP,hops]
 ((iterate 23 refine ⟨_,Cell.at 3 rfl rfl,?_⟩); rw [lit_g])
 try refine stI ?_
 try simp (dsimp:=false)(disch:=omega) only [go_sem,Φa,hP,hops]
 refine SCall.mono (lentGame_spec (g := g) (sv := .slice As g.st.length cs) (pv := .slice Ap g.pg.length cp) (mv := .slice Am g.mm.length cm) hP (SlI.cons _ (SlI.cons _ (SlI.cons _ (SlI.cons _ hs)))) (SlI.cons _ (SlI.cons _ (SlI.cons _ (SlI.cons _ hp)))) (SlI.cons _ (SlI.cons _ (SlI.cons _ (SlI.cons _ hm)))) (by omega) (by omega) (by omega)) ?_
 rintro v_ L_ ⟨l1,l2,l3,rfl,rfl⟩
 try refine stI ?_
 try simp (dsimp:=false)(disch:=omega) only [go_sem,Φa,hP,hops]
 intro b9
 try refine stI ?_
 try simp (dsimp:=false)(disch:=omega) only [go_sem,Φa,hP,hops]
 refine ⟨rfl,rfl,0,_,_,_,rfl,Nat.le_refl 23,.inr (Nat.zero_le 0),?_⟩
 try refine stI ?_
 try simp (dsimp:=false)(disch:=omega) only [go_sem,Φa,hP,hops]
 rw [put_lent rfl]
 refine hK2 _ _ ?_
 try clear hK2 K2
 refine SX.live [3,4,5,6,9] (fun T1 hT1=>?_)
 simp only [forall_mem_cons',forall_mem_nil',go_sem,Φa,hP] at hT1
 obtain ⟨h1_3,h1_4,h1_5,h1_6,h1_9⟩ := hT1
 refine SX.seq_k fun K3 hK3=>?_
 refine SX.region_d [some 23,some 10,none] rfl (fun ops hops=>?_)
 unfold Dsts at hops
 simp (dsimp:=false)(disch:=omega) only [go_sem,Φa,hP,h1_3,h1_4,h1_5,h1_6,h1_9,hops]
 (iterate 18 refine ⟨_,Cell.at 6 rfl rfl,?_⟩)
 try refine stI ?_
 try simp (dsimp:=false)(disch:=omega) only [go_sem,Φa,hP,h1_3,h1_4,h1_5,h1_6,h1_9,hops]
 intro b10
 try refine stI ?_
 try simp (dsimp:=false)(disch:=omega) only [go_sem,Φa,hP,h1_3,h1_4,h1_5,h1_6,h1_9,hops]
 refine ⟨0,_,_,_,rfl,by decide,.inr (by decide),?_⟩
 try refine stI ?_
 try simp (dsimp:=false)(disch:=omega) only [go_sem,Φa,hP,h1_3,h1_4,h1_5,h1_6,h1_9,hops]
 refine hK3 _ _ ?_
 try clear hK3 K3
 refine SX.seq_k fun K4 hK4=>?_
 refine SX.region_d [some 24,some 25,some 26,some 27,none] rfl (fun ops hops=>?_)
 unfold Dsts at hops
 simp (dsimp:=false)(disch:=omega) only [go_sem,Φa,hP,h1_3,h1_4,h1_5,h1_6,h1_9,hops]
 refine ⟨_,Cell.at 7 rfl (show (Fnt.cells _ _)[17]? = _ from rfl),?_⟩
 try refine stI ?_
 try simp (dsimp:=false)(disch:=omega) only [go_sem,Φa,hP,h1_3,h1_4,h1_5,h1_6,h1_9,hops]
 refine SCall.mono (lent_spec (l := f.bs) hP (SlI.cons _ (SlI.cons _ (SlI.cons _ (SlI.cons _ (SlI.cons _ (SlI.cons _ (SlI.cons _ (SlI.cons _ (SlI.cons _ hf))))))))) hfl) ?_
 rintro v_ L_ ⟨lb,rfl,rfl⟩
 try refine stI ?_
 try simp (dsimp:=false)(disch:=omega) only [go_sem,Φa,hP,h1_3,h1_4,h1_5,h1_6,h1_9,hops]
 refine ⟨1,_,_,_,rfl,(by simp),.inr (by decide),?_⟩
 try refine stI ?_
 try simp (dsimp:=false)(disch:=omega) only [go_sem,Φa,hP,h1_3,h1_4,h1_5,h1_6,h1_9,hops]
 refine hK4 _ _ ?_
 try clear hK4 K4
 refine SX.seq_k fun K5 hK5=>?_
 refine SX.region_d [some 29,some 30,some 31,some 32,some 28,some 33,some 34,some 35,some 11,none,some 12,some 13] rfl (fun ops hops=>?_)
 unfold Dsts at hops
 simp (dsimp:=false)(disch:=omega) only [go_sem,Φa,hP,h1_3,h1_4,h1_5,h1_6,h1_9,hops]
 (iterate 23 refine ⟨_,Cell.at 2 rfl rfl,?_⟩)
 try refine stI ?_
 try simp (dsimp:=false)(disch:=omega) only [go_sem,Φa,hP,h1_3,h1_4,h1_5,h1_6,h1_9,hops]
 (iterate 18 refine ⟨_,Cell.at 1 rfl rfl,?_⟩)
 try refine stI ?_
 try simp (dsimp:=false)(disch:=omega) only [go_sem,Φa,hP,h1_3,h1_4,h1_5,h1_6,h1_9,hops]
 (iterate 3 refine ⟨_,Cell.at 7 rfl rfl,?_⟩)
 try refine stI ?_
 try simp (dsimp:=false)(disch:=omega) only [go_sem,Φa,hP,h1_3,h1_4,h1_5,h1_6,h1_9,hops]
 refine SCall.mono (Step_spec (g := g) (f := f) (fv := .slice (some ⟨lb,0,none⟩) f.bs.length (f.bs.length + 3)) (d := d) hP hg hF hd (lentSlW 3 rfl) (lentSlB 4 rfl) (lentSlB 5 rfl) (lentSlB 0 rfl) (by omega) (by omega) (by omega) (by omega)) ?_
 rintro v_ L_ ⟨sv1,pv1,mv1,n1,n2,n3,rfl,rfl,hr1⟩
 obtain ⟨A1st,c1st,rfl,hc1st⟩ := rowShape hr1.st
 obtain ⟨A1pg,c1pg,rfl,hc1pg⟩ := rowShape hr1.pg
 obtain ⟨A1mm,c1mm,rfl,hc1mm⟩ := rowShape hr1.mm
 try refine stI ?_
 try simp (dsimp:=false)(disch:=omega) only [go_sem,Φa,hP,h1_3,h1_4,h1_5,h1_6,h1_9,hops]
 intro b11
 try refine stI ?_
 try simp (dsimp:=false)(disch:=omega) only [go_sem,Φa,hP,h1_3,h1_4,h1_5,h1_6,h1_9,hops]
 refine ⟨rfl,rfl,0,_,_,_,rfl,Nat.le_refl 23,.inr (Nat.zero_le 0),?_⟩
 try refine stI ?_
 try simp (dsimp:=false)(disch:=omega) only [go_sem,Φa,hP,h1_3,h1_4,h1_5,h1_6,h1_9,hops]
 rw [put_g rfl]
 refine hK5 _ _ ?_
 try clear hK5 K5
 refine SX.live [3,4,5,6,9,10,11,12,13] (fun T2 hT2=>?_)
 simp only [forall_mem_cons',forall_mem_nil',go_sem,Φa,hP,h1_3,h1_4,h1_5,h1_6,h1_9] at hT2
 obtain ⟨h2_3,h2_4,h2_5,h2_6,h2_9,h2_10,h2_11,h2_12,h2_13⟩ := hT2
 clear h1_3 h1_4 h1_5 h1_6 h1_9 T1
 refine SX.seq_k fun K6 hK6=>?_
 refine SX.region_d [some 36,some 37,some 38,some 14] rfl (fun ops hops=>?_)
 unfold Dsts at hops
 simp (dsimp:=false)(disch:=omega) only [go_sem,Φa,hP,h2_3,h2_4,h2_5,h2_6,h2_9,h2_10,h2_11,h2_12,h2_13,hops]
 (iterate 23 refine ⟨_,Cell.at 6 rfl rfl,?_⟩)
 try refine stI ?_
 try simp (dsimp:=false)(disch:=omega) only [go_sem,Φa,hP,h2_3,h2_4,h2_5,h2_6,h2_9,h2_10,h2_11,h2_12,h2_13,hops]
 ((iterate 23 refine ⟨_,Cell.at 13 rfl rfl,?_⟩); rw [lit_g])
 try refine stI ?_
 try simp (dsimp:=false)(disch:=omega) only [go_sem,Φa,hP,h2_3,h2_4,h2_5,h2_6,h2_9,h2_10,h2_11,h2_12,h2_13,hops]
 refine SCall.mono (keptGame_spec (g := g) (i1 := 7) (i2 := 8) (i3 := 9) hP rfl rfl rfl (by decide) (by decide) (by decide) (SlI.cons _ (SlI.cons _ (SlI.cons _ (SlI.cons _ (SlI.cons _ (SlI.cons _ (SlI.cons _ (SlI.cons _ (SlI.cons _ (SlI.cons _ (SlI.cons _ (SlI.cons _ (SlI.cons _ (SlI.cons _ hs)))))))))))))) (SlI.cons _ (SlI.cons _ (SlI.cons _ (SlI.cons _ (SlI.cons _ (SlI.cons _ (SlI.cons _ (SlI.cons _ (SlI.cons _ (SlI.cons _ (SlI.cons _ (SlI.cons _ (SlI.cons _ (SlI.cons _ hp)))))))))))))) (SlI.cons _ (SlI.cons _ (SlI.cons _ (SlI.cons _ (SlI.cons _ (SlI.cons _ (SlI.cons _ (SlI.cons _ (SlI.cons _ (SlI.cons _ (SlI.cons _ (SlI.cons _ (SlI.cons _ (SlI.cons _ hm)))))))))))))) (by omega) (by omega) (by omega)) ?_
 rintro v_ L_ ⟨hv_,hL_⟩
 rw [hv_,hL_]
 clear hv_ hL_ v_ L_
 try refine stI ?_
 try simp (dsimp:=false)(disch:=omega) only [go_sem,Φa,hP,h2_3,h2_4,h2_5,h2_6,h2_9,h2_10,h2_11,h2_12,h2_13,hops]
 refine hK6 _ _ ?_
 try clear hK6 K6
 refine SX.seq_k fun K7 hK7=>?_
 refine SX.region_d [some 39,some 40,some 41,some 42,some 43,some 15] rfl (fun ops hops=>?_)
 unfold Dsts at hops
 simp (dsimp:=false)(disch:=omega) only [go_sem,Φa,hP,h2_3,h2_4,h2_5,h2_6,h2_9,h2_10,h2_11,h2_12,h2_13,hops]
 refine ⟨_,Cell.at 5 rfl rfl,?_⟩
 try refine stI ?_
 try simp (dsimp:=false)(disch:=omega) only [go_sem,Φa,hP,h2_3,h2_4,h2_5,h2_6,h2_9,h2_10,h2_11,h2_12,h2_13,hops]
 refine ⟨_,Cell.at 12 rfl (show (Fnt.cells _ _)[17]? = _ from rfl),?_⟩
 try refine stI ?_
 try simp (dsimp:=false)(disch:=omega) only [go_sem,Φa,hP,h2_3,h2_4,h2_5,h2_6,h2_9,h2_10,h2_11,h2_12,h2_13,hops]
 refine SCall.mono (kept_spec (i := 4) (l := f.bs) hP rfl (SlI.cons _ (SlI.cons _ (SlI.cons _ (SlI.cons _ (SlI.cons _ (SlI.cons _ (SlI.cons _ (SlI.cons _ (SlI.cons _ (SlI.cons _ (SlI.cons _ (SlI.cons _ (SlI.cons _ (SlI.cons _ hf)))))))))))))) hfl) ?_
 rintro v_ L_ ⟨hv_,hL_⟩
 rw [hv_,hL_]
 clear hv_ hL_ v_ L_
 try refine stI ?_
 try simp (dsimp:=false)(disch:=omega) only [go_sem,Φa,hP,h2_3,h2_4,h2_5,h2_6,h2_9,h2_10,h2_11,h2_12,h2_13,hops]
 refine hK7 _ _ ?_
 try clear hK7 K7
 refine SX.live [3,4,5,6,11,12,13,14,15] (fun T3 hT3=>?_)
 simp only [forall_mem_cons',forall_mem_nil',go_sem,Φa,hP,h2_3,h2_4,h2_5,h2_6,h2_9,h2_10,h2_11,h2_12,h2_13] at hT3
 obtain ⟨h3_3,h3_4,h3_5,h3_6,h3_11,h3_12,h3_13,h3_14,h3_15⟩ := hT3
 clear h2_3 h2_4 h2_5 h2_6 h2_9 h2_10 h2_11 h2_12 h2_13 T2
 refine SX.seq_k fun K8 hK8=>?_
 refine SX.region_d [some 45,some 46,some 47,some 48,some 44,some 49,some 50,some 51,some 16,none,some 17,some 18] rfl (fun ops hops=>?_)
 unfold Dsts at hops
 simp (dsimp:=false)(disch:=omega) only [go_sem,Φa,hP,h3_3,h3_4,h3_5,h3_6,h3_11,h3_12,h3_13,h3_14,h3_15,hops]
 ((iterate 23 refine ⟨_,Cell.at 13 rfl rfl,?_⟩); rw [lit_g])
 try refine stI ?_
 try simp (dsimp:=false)(disch:=omega) only [go_sem,Φa,hP,h3_3,h3_4,h3_5,h3_6,h3_11,h3_12,h3_13,h3_14,h3_15,hops]
 (iterate 18 refine ⟨_,Cell.at 12 rfl rfl,?_⟩)
 try refine stI ?_
 try simp (dsimp:=false)(disch:=omega) only [go_sem,Φa,hP,h3_3,h3_4,h3_5,h3_6,h3_11,h3_12,h3_13,h3_14,h3_15,hops]
 (iterate 3 refine ⟨_,Cell.at 11 rfl rfl,?_⟩)
 try refine stI ?_
 try simp (dsimp:=false)(disch:=omega) only [go_sem,Φa,hP,h3_3,h3_4,h3_5,h3_6,h3_11,h3_12,h3_13,h3_14,h3_15,hops]
 refine SCall.mono (refStep_spec (g := g) (f := f) (d := d) hP hg hF hd (SlI.cons _ (SlI.cons _ (SlI.cons _ (SlI.cons _ (SlI.cons _ (SlI.cons _ (SlI.cons _ (SlI.cons _ (SlI.cons _ (SlI.cons _ (SlI.cons _ (SlI.cons _ (SlI.cons _ (SlI.cons _ hs)))))))))))))) (SlI.cons _ (SlI.cons _ (SlI.cons _ (SlI.cons _ (SlI.cons _ (SlI.cons _ (SlI.cons _ (SlI.cons _ (SlI.cons _ (SlI.cons _ (SlI.cons _ (SlI.cons _ (SlI.cons _ (SlI.cons _ hp)))))))))))))) (SlI.cons _ (SlI.cons _ (SlI.cons _ (SlI.cons _ (SlI.cons _ (SlI.cons _ (SlI.cons _ (SlI.cons _ (SlI.cons _ (SlI.cons _ (SlI.cons _ (SlI.cons _ (SlI.cons _ (SlI.cons _ hm)))))))))))))) (SlI.cons _ (SlI.cons _ (SlI.cons _ (SlI.cons _ (SlI.cons _ (SlI.cons _ (SlI.cons _ (SlI.cons _ (SlI.cons _ (SlI.cons _ (SlI.cons _ (SlI.cons _ (SlI.cons _ (SlI.cons _ hf)))))))))))))) (by omega) (by omega) (by omega) (by omega)) ?_
 rintro v_ L_ ⟨sv2,pv2,mv2,m1,m2,m3,rfl,rfl,hr2⟩
 obtain ⟨A2st,c2st,rfl,hc2st⟩ := rowShape hr2.st
 obtain ⟨A2pg,c2pg,rfl,hc2pg⟩ := rowShape hr2.pg
 obtain ⟨A2mm,c2mm,rfl,hc2mm⟩ := rowShape hr2.mm
 try refine stI ?_
 try simp (dsimp:=false)(disch:=omega) only [go_sem,Φa,hP,h3_3,h3_4,h3_5,h3_6,h3_11,h3_12,h3_13,h3_14,h3_15,hops]
 intro b16
 try refine stI ?_
 try simp (dsimp:=false)(disch:=omega) only [go_sem,Φa,hP,h3_3,h3_4,h3_5,h3_6,h3_11,h3_12,h3_13,h3_14,h3_15,hops]
 refine ⟨rfl,rfl,0,_,_,_,rfl,Nat.le_refl 23,.inr (Nat.zero_le 0),?_⟩
 try refine stI ?_
 try simp (dsimp:=false)(disch:=omega) only [go_sem,Φa,hP,h3_3,h3_4,h3_5,h3_6,h3_11,h3_12,h3_13,h3_14,h3_15,hops]
 rw [put_g rfl]
 refine hK8 _ _ ?_
 try clear hK8 K8
 refine SX.live [6,11,12,13,14,15,16,17,18] (fun T4 hT4=>?_)
 simp only [forall_mem_cons',forall_mem_nil',go_sem,Φa,hP,h3_3,h3_4,h3_5,h3_6,h3_11,h3_12,h3_13,h3_14,h3_15] at hT4
 obtain ⟨h4_6,h4_11,h4_12,h4_13,h4_14,h4_15,h4_16,h4_17,h4_18⟩ := hT4
 clear h3_3 h3_4 h3_5 h3_6 h3_11 h3_12 h3_13 h3_14 h3_15 T3
 refine SX.seq_k fun K9 hK9=>?_
 refine SX.region_xd [some 52,some 53,some 54,some 55,some 56,some 57,some 58,some 59,some 60,some 61,some 62,some 63,some 64,some 19] rfl (fun ops hops=>?_)
 unfold Dsts at hops
 refine RX.live [6,11,12,13,14,15,16,17,18] (fun T5 hT5=>?_)
 simp only [forall_mem_cons',forall_mem_nil',go_sem,Φa,hP,h4_6,h4_11,h4_12,h4_13,h4_14,h4_15,h4_16,h4_17,h4_18] at hT5
 obtain ⟨h5_6,h5_11,h5_12,h5_13,h5_14,h5_15,h5_16,h5_17,h5_18⟩ := hT5
 clear h4_6 h4_11 h4_12 h4_13 h4_14 h4_15 h4_16 h4_17 h4_18 T4
 refine RX.join 8 (fun (ss : Unit) T L'=>T 59 = .bool (true) ∧ T 6 = T5 6 ∧ T 11 = T5 11 ∧ T 12 = T5 12 ∧ T 14 = T5 14 ∧ T 15 = T5 15 ∧ T 16 = T5 16 ∧ L' = some (b16,.cells ((stepG g f d).1.cells (.slice A2st (stepG g f d).1.st.length c2st) (.slice A2pg (stepG g f d).1.pg.length c2pg) (.slice A2mm (stepG g f d).1.mm.length c2mm)).toArray 27 (0,0)) :: m1 :: m2 :: m3 :: some (b11,.cells ((stepG g f d).1.cells (.slice A1st (stepG g f d).1.st.length c1st) (.slice A1pg (stepG g f d).1.pg.length c1pg) (.slice A1mm (stepG g f d).1.mm.length c1mm)).toArray 27 (0,0)) :: n1 :: n2 :: n3 :: none :: some (b10,.cells (f.cells (.slice (some ⟨lb,0,none⟩) f.bs.length (f.bs.length + 3))).toArray 30 (0,0)) :: some (b9,.cells (lentC g l1 l2 l3).toArray 27 (0,0)) :: none :: none :: none :: some (b3,.cells #[.int .u8 0,.int .u8 0,.int .u8 0,.int .u8 0,.int .u8 0,.int .u8 0,.int .u8 0,.int .u8 0,.int .u8 0,.int .u8 0,.int .u8 0,.int .u8 0,.int .u8 0,.int .u8 0,.int .u8 0,.int .u8 0,.int .u16 0,.int .u16 0,.slice none 0 0,.int .u8 0,.int .u8 0,.slice none 0 0,.slice none 0 0] 27 (0,0)) :: some (b2,.cells d.cells.toArray 38 (0,0)) :: some (b1,.cells (f.cells (.slice Af f.bs.length cf)).toArray 30 (0,0)) :: some (b0,.cells (g.cells (.slice As g.st.length cs) (.slice Ap g.pg.length cp) (.slice Am g.mm.length cm)).toArray 27 (0,0)) :: L ∧ (True)) (fun K10 hK10=>?_) ?_
 ·simp only [h5_6,h5_11,h5_12,h5_14,h5_15,h5_16] at hK10
  simp (dsimp:=false)(disch:=omega) only [go_sem,Φa,hP,h5_6,h5_11,h5_12,h5_13,h5_14,h5_15,h5_16,h5_17,h5_18,hops]
  repeat' (first | refine iteB (fun hg=>?_) (fun hg=>?_) | refine iteI (fun hg=>?_) (fun hg=>?_) | ((first | ((iterate 23 refine ⟨_,Cell.at 4 rfl rfl,?_⟩); rw [lit_g (g := (stepG g f d).1)]) | ((iterate 23 refine ⟨_,Cell.at 0 rfl rfl,?_⟩); rw [lit_g (g := (stepG g f d).1)]) | (refine SCall.mono (Same_spec (a := (stepG g f d).1) (b := (stepG g f d).1) hP hok hok (RowI.sl hr1.st (i := 5) rfl) (RowI.sl hr1.pg (i := 6) rfl) (RowI.sl hr1.mm (i := 7) rfl) (RowI.sl hr2.st (i := 1) rfl) (RowI.sl hr2.pg (i := 2) rfl) (RowI.sl hr2.mm (i := 3) rfl) (by omega) (by omega)) ?_; rintro v_ L_ ⟨rfl,rfl⟩; rw [sameB_self]) | refine And.intro (by omega) ?_ | refine ⟨_,Cell.at 0 rfl rfl,?_⟩ | refine ⟨_,Cell.at 1 rfl rfl,?_⟩ | refine ⟨_,Cell.at 2 rfl rfl,?_⟩ | refine ⟨_,Cell.at 3 rfl rfl,?_⟩ | refine ⟨_,Cell.at 4 rfl rfl,?_⟩ | refine ⟨_,Cell.at 5 rfl rfl,?_⟩ | refine ⟨_,Cell.at 6 rfl rfl,?_⟩ | refine ⟨_,Cell.at 7 rfl rfl,?_⟩ | refine ⟨_,Cell.at 8 rfl rfl,?_⟩ | refine ⟨_,Cell.at 9 rfl rfl,?_⟩ | refine ⟨_,Cell.at 10 rfl rfl,?_⟩ | refine ⟨_,Cell.at 11 rfl rfl,?_⟩ | refine ⟨_,Cell.at 12 rfl rfl,?_⟩ | refine ⟨_,Cell.at 13 rfl rfl,?_⟩ | refine ⟨_,Cell.at 14 rfl rfl,?_⟩ | refine ⟨_,Cell.at 15 rfl rfl,?_⟩ | refine ⟨_,Cell.at 16 rfl rfl,?_⟩ | refine ⟨_,Cell.at 17 rfl rfl,?_⟩ | fail); try refine stI ?_; try simp (dsimp:=false)(disch:=omega) only [go_sem,Φa,hP,h5_6,h5_11,h5_12,h5_13,h5_14,h5_15,h5_16,h5_17,h5_18,hops]) | simp (dsimp:=false)(disch:=omega) only [go_sem,Φa,hP,h5_6,h5_11,h5_12,h5_13,h5_14,h5_15,h5_16,h5_17,h5_18,hops] | fail)
  all_goals
   refine hK10 () _ (some (b16,.cells ((stepG g f d).1.cells (.slice A2st (stepG g f d).1.st.length c2st) (.slice A2pg (stepG g f d).1.pg.length c2pg) (.slice A2mm (stepG g f d).1.mm.length c2mm)).toArray 27 (0,0)) :: m1 :: m2 :: m3 :: some (b11,.cells ((stepG g f d).1.cells (.slice A1st (stepG g f d).1.st.length c1st) (.slice A1pg (stepG g f d).1.pg.length c1pg) (.slice A1mm (stepG g f d).1.mm.length c1mm)).toArray 27 (0,0)) :: n1 :: n2 :: n3 :: none :: some (b10,.cells (f.cells (.slice (some ⟨lb,0,none⟩) f.bs.length (f.bs.length + 3))).toArray 30 (0,0)) :: some (b9,.cells (lentC g l1 l2 l3).toArray 27 (0,0)) :: none :: none :: none :: some (b3,.cells #[.int .u8 0,.int .u8 0,.int .u8 0,.int .u8 0,.int .u8 0,.int .u8 0,.int .u8 0,.int .u8 0,.int .u8 0,.int .u8 0,.int .u8 0,.int .u8 0,.int .u8 0,.int .u8 0,.int .u8 0,.int .u8 0,.int .u16 0,.int .u16 0,.slice none 0 0,.int .u8 0,.int .u8 0,.slice none 0 0,.slice none 0 0] 27 (0,0)) :: some (b2,.cells d.cells.toArray 38 (0,0)) :: some (b1,.cells (f.cells (.slice Af f.bs.length cf)).toArray 30 (0,0)) :: some (b0,.cells (g.cells (.slice As g.st.length cs) (.slice Ap g.pg.length cp) (.slice Am g.mm.length cm)).toArray 27 (0,0)) :: L) _ (by first | exact Less.refl _ | exact Less.drop _ _ | exact Less.drops (Less.drop _ _) | exact Less.drops (Less.drops (Less.drop _ _)) | exact Less.drops (Less.drops (Less.drops (Less.drop _ _))) | exact Less.drops (Less.drops (Less.drops (Less.drops (Less.drop _ _))))) ?_
   try dsimp only
   refine ⟨?_,?_,?_,?_,?_,?_,?_,?_,?_⟩
   ·simp (dsimp:=false)(disch:=omega) only [go_sem,Φa,hP,h5_6,h5_11,h5_12,h5_13,h5_14,h5_15,h5_16,h5_17,h5_18]
    first | done | (refine congrArg Value.bool ?_; simp_all; done)
   ·simp (dsimp:=false)(disch:=omega) only [go_sem,Φa,hP,h5_6,h5_11,h5_12,h5_13,h5_14,h5_15,h5_16,h5_17,h5_18]
   ·simp (dsimp:=false)(disch:=omega) only [go_sem,Φa,hP,h5_6,h5_11,h5_12,h5_13,h5_14,h5_15,h5_16,h5_17,h5_18]
   ·simp (dsimp:=false)(disch:=omega) only [go_sem,Φa,hP,h5_6,h5_11,h5_12,h5_13,h5_14,h5_15,h5_16,h5_17,h5_18]
   ·simp (dsimp:=false)(disch:=omega) only [go_sem,Φa,hP,h5_6,h5_11,h5_12,h5_13,h5_14,h5_15,h5_16,h5_17,h5_18]
   ·simp (dsimp:=false)(disch:=omega) only [go_sem,Φa,hP,h5_6,h5_11,h5_12,h5_13,h5_14,h5_15,h5_16,h5_17,h5_18]
   ·simp (dsimp:=false)(disch:=omega) only [go_sem,Φa,hP,h5_6,h5_11,h5_12,h5_13,h5_14,h5_15,h5_16,h5_17,h5_18]
   ·rfl
   trivial
 intro ss T6 L6 hI
 simp only [h5_6,h5_11,h5_12,h5_14,h5_15,h5_16] at hI 
 obtain ⟨h6_59,h6_6,h6_11,h6_12,h6_14,h6_15,h6_16,hL6,hinv⟩ := hI
 replace hL6 := hL6.symm
 subst hL6
 clear h5_6 h5_11 h5_12 h5_13 h5_14 h5_15 h5_16 h5_17 h5_18 T5
 refine RX.live [6,11,12,14,15,16,59] (fun T7 hT7=>?_)
 simp only [forall_mem_cons',forall_mem_nil',go_sem,Φa,hP,h6_59,h6_6,h6_11,h6_12,h6_14,h6_15,h6_16] at hT7
 obtain ⟨h7_6,h7_11,h7_12,h7_14,h7_15,h7_16,h7_59⟩ := hT7
 clear h6_59 h6_6 h6_11 h6_12 h6_14 h6_15 h6_16 T6
 refine RX.join 5 (fun (ss : Unit) T L'=>T 64 = .bool (true) ∧ T 6 = T7 6 ∧ T 11 = T7 11 ∧ T 12 = T7 12 ∧ T 14 = T7 14 ∧ T 15 = T7 15 ∧ T 16 = T7 16 ∧ L' = some (b16,.cells ((stepG g f d).1.cells (.slice A2st (stepG g f d).1.st.length c2st) (.slice A2pg (stepG g f d).1.pg.length c2pg) (.slice A2mm (stepG g f d).1.mm.length c2mm)).toArray 27 (0,0)) :: m1 :: m2 :: m3 :: some (b11,.cells ((stepG g f d).1.cells (.slice A1st (stepG g f d).1.st.length c1st) (.slice A1pg (stepG g f d).1.pg.length c1pg) (.slice A1mm (stepG g f d).1.mm.length c1mm)).toArray 27 (0,0)) :: n1 :: n2 :: n3 :: none :: some (b10,.cells (f.cells (.slice (some ⟨lb,0,none⟩) f.bs.length (f.bs.length + 3))).toArray 30 (0,0)) :: some (b9,.cells (lentC g l1 l2 l3).toArray 27 (0,0)) :: none :: none :: none :: some (b3,.cells #[.int .u8 0,.int .u8 0,.int .u8 0,.int .u8 0,.int .u8 0,.int .u8 0,.int .u8 0,.int .u8 0,.int .u8 0,.int .u8 0,.int .u8 0,.int .u8 0,.int .u8 0,.int .u8 0,.int .u8 0,.int .u8 0,.int .u16 0,.int .u16 0,.slice none 0 0,.int .u8 0,.int .u8 0,.slice none 0 0,.slice none 0 0] 27 (0,0)) :: some (b2,.cells d.cells.toArray 38 (0,0)) :: some (b1,.cells (f.cells (.slice Af f.bs.length cf)).toArray 30 (0,0)) :: some (b0,.cells (g.cells (.slice As g.st.length cs) (.slice Ap g.pg.length cp) (.slice Am g.mm.length cm)).toArray 27 (0,0)) :: L ∧ (True)) (fun K11 hK11=>?_) ?_
 ·simp only [h7_6,h7_11,h7_12,h7_14,h7_15,h7_16] at hK11
  simp (dsimp:=false)(disch:=omega) only [go_sem,Φa,hP,h7_6,h7_11,h7_12,h7_14,h7_15,h7_16,h7_59,hops]
  repeat' (first | refine iteB (fun hg=>?_) (fun hg=>?_) | refine iteI (fun hg=>?_) (fun hg=>?_) | ((first | ((iterate 23 refine ⟨_,Cell.at 4 rfl rfl,?_⟩); rw [lit_g (g := (stepG g f d).1)]) | ((iterate 23 refine ⟨_,Cell.at 0 rfl rfl,?_⟩); rw [lit_g (g := (stepG g f d).1)]) | (refine SCall.mono (Same_spec (a := (stepG g f d).1) (b := (stepG g f d).1) hP hok hok (RowI.sl hr1.st (i := 5) rfl) (RowI.sl hr1.pg (i := 6) rfl) (RowI.sl hr1.mm (i := 7) rfl) (RowI.sl hr2.st (i := 1) rfl) (RowI.sl hr2.pg (i := 2) rfl) (RowI.sl hr2.mm (i := 3) rfl) (by omega) (by omega)) ?_; rintro v_ L_ ⟨rfl,rfl⟩; rw [sameB_self]) | refine And.intro (by omega) ?_ | (iterate 23 refine ⟨_,Cell.at 0 rfl rfl,?_⟩) | (iterate 23 refine ⟨_,Cell.at 1 rfl rfl,?_⟩) | (iterate 23 refine ⟨_,Cell.at 2 rfl rfl,?_⟩) | (iterate 23 refine ⟨_,Cell.at 3 rfl rfl,?_⟩) | (iterate 23 refine ⟨_,Cell.at 4 rfl rfl,?_⟩) | (iterate 23 refine ⟨_,Cell.at 5 rfl rfl,?_⟩) | (iterate 23 refine ⟨_,Cell.at 6 rfl rfl,?_⟩) | (iterate 23 refine ⟨_,Cell.at 7 rfl rfl,?_⟩) | (iterate 23 refine ⟨_,Cell.at 8 rfl rfl,?_⟩) | (iterate 23 refine ⟨_,Cell.at 9 rfl rfl,?_⟩) | (iterate 23 refine ⟨_,Cell.at 10 rfl rfl,?_⟩) | (iterate 23 refine ⟨_,Cell.at 11 rfl rfl,?_⟩) | (iterate 23 refine ⟨_,Cell.at 12 rfl rfl,?_⟩) | (iterate 23 refine ⟨_,Cell.at 13 rfl rfl,?_⟩) | (iterate 23 refine ⟨_,Cell.at 14 rfl rfl,?_⟩) | (iterate 23 refine ⟨_,Cell.at 15 rfl rfl,?_⟩) | (iterate 23 refine ⟨_,Cell.at 16 rfl rfl,?_⟩) | (iterate 23 refine ⟨_,Cell.at 17 rfl rfl,?_⟩) | refine ⟨_,Cell.at 0 rfl rfl,?_⟩ | refine ⟨_,Cell.at 1 rfl rfl,?_⟩ | refine ⟨_,Cell.at 2 rfl rfl,?_⟩ | refine ⟨_,Cell.at 3 rfl rfl,?_⟩ | refine ⟨_,Cell.at 4 rfl rfl,?_⟩ | refine ⟨_,Cell.at 5 rfl rfl,?_⟩ | refine ⟨_,Cell.at 6 rfl rfl,?_⟩ | refine ⟨_,Cell.at 7 rfl rfl,?_⟩ | refine ⟨_,Cell.at 8 rfl rfl,?_⟩ | refine ⟨_,Cell.at 9 rfl rfl,?_⟩ | refine ⟨_,Cell.at 10 rfl rfl,?_⟩ | refine ⟨_,Cell.at 11 rfl rfl,?_⟩ | refine ⟨_,Cell.at 12 rfl rfl,?_⟩ | refine ⟨_,Cell.at 13 rfl rfl,?_⟩ | refine ⟨_,Cell.at 14 rfl rfl,?_⟩ | refine ⟨_,Cell.at 15 rfl rfl,?_⟩ | refine ⟨_,Cell.at 16 rfl rfl,?_⟩ | refine ⟨_,Cell.at 17 rfl rfl,?_⟩ | fail); try refine stI ?_; try simp (dsimp:=false)(disch:=omega) only [go_sem,Φa,hP,h7_6,h7_11,h7_12,h7_14,h7_15,h7_16,h7_59,hops]) | simp (dsimp:=false)(disch:=omega) only [go_sem,Φa,hP,h7_6,h7_11,h7_12,h7_14,h7_15,h7_16,h7_59,hops] | fail)
  all_goals
   refine hK11 () _ (some (b16,.cells ((stepG g f d).1.cells (.slice A2st (stepG g f d).1.st.length c2st) (.slice A2pg (stepG g f d).1.pg.length c2pg) (.slice A2mm (stepG g f d).1.mm.length c2mm)).toArray 27 (0,0)) :: m1 :: m2 :: m3 :: some (b11,.cells ((stepG g f d).1.cells (.slice A1st (stepG g f d).1.st.length c1st) (.slice A1pg (stepG g f d).1.pg.length c1pg) (.slice A1mm (stepG g f d).1.mm.length c1mm)).toArray 27 (0,0)) :: n1 :: n2 :: n3 :: none :: some (b10,.cells (f.cells (.slice (some ⟨lb,0,none⟩) f.bs.length (f.bs.length + 3))).toArray 30 (0,0)) :: some (b9,.cells (lentC g l1 l2 l3).toArray 27 (0,0)) :: none :: none :: none :: some (b3,.cells #[.int .u8 0,.int .u8 0,.int .u8 0,.int .u8 0,.int .u8 0,.int .u8 0,.int .u8 0,.int .u8 0,.int .u8 0,.int .u8 0,.int .u8 0,.int .u8 0,.int .u8 0,.int .u8 0,.int .u8 0,.int .u8 0,.int .u16 0,.int .u16 0,.slice none 0 0,.int .u8 0,.int .u8 0,.slice none 0 0,.slice none 0 0] 27 (0,0)) :: some (b2,.cells d.cells.toArray 38 (0,0)) :: some (b1,.cells (f.cells (.slice Af f.bs.length cf)).toArray 30 (0,0)) :: some (b0,.cells (g.cells (.slice As g.st.length cs) (.slice Ap g.pg.length cp) (.slice Am g.mm.length cm)).toArray 27 (0,0)) :: L) _ (by first | exact Less.refl _ | exact Less.drop _ _ | exact Less.drops (Less.drop _ _) | exact Less.drops (Less.drops (Less.drop _ _)) | exact Less.drops (Less.drops (Less.drops (Less.drop _ _))) | exact Less.drops (Less.drops (Less.drops (Less.drops (Less.drop _ _))))) ?_
   try dsimp only
   refine ⟨?_,?_,?_,?_,?_,?_,?_,?_,?_⟩
   ·simp (dsimp:=false)(disch:=omega) only [go_sem,Φa,hP,h7_6,h7_11,h7_12,h7_14,h7_15,h7_16,h7_59]
    first | done | (refine congrArg Value.bool ?_; simp_all; done)
   ·simp (dsimp:=false)(disch:=omega) only [go_sem,Φa,hP,h7_6,h7_11,h7_12,h7_14,h7_15,h7_16,h7_59]
   ·simp (dsimp:=false)(disch:=omega) only [go_sem,Φa,hP,h7_6,h7_11,h7_12,h7_14,h7_15,h7_16,h7_59]
   ·simp (dsimp:=false)(disch:=omega) only [go_sem,Φa,hP,h7_6,h7_11,h7_12,h7_14,h7_15,h7_16,h7_59]
   ·simp (dsimp:=false)(disch:=omega) only [go_sem,Φa,hP,h7_6,h7_11,h7_12,h7_14,h7_15,h7_16,h7_59]
   ·simp (dsimp:=false)(disch:=omega) only [go_sem,Φa,hP,h7_6,h7_11,h7_12,h7_14,h7_15,h7_16,h7_59]
   ·simp (dsimp:=false)(disch:=omega) only [go_sem,Φa,hP,h7_6,h7_11,h7_12,h7_14,h7_15,h7_16,h7_59]
   ·rfl
   trivial
 intro ss T8 L8 hI
 simp only [h7_6,h7_11,h7_12,h7_14,h7_15,h7_16] at hI 
 obtain ⟨h8_64,h8_6,h8_11,h8_12,h8_14,h8_15,h8_16,hL8,hinv⟩ := hI
 replace hL8 := hL8.symm
 subst hL8
 clear h7_6 h7_11 h7_12 h7_14 h7_15 h7_16 h7_59 T7
 refine RX.done ?_
 simp (dsimp:=false)(disch:=omega) only [go_sem,Φa,hP,h8_64,h8_6,h8_11,h8_12,h8_14,h8_15,h8_16,hops]
 refine hK9 _ _ ?_
 try clear hK9 K9
 refine SX.seq_k fun K12 hK12=>?_
 refine SX.region_d [some 65,some 66,some 20] rfl (fun ops hops=>?_)
 unfold Dsts at hops
 simp (dsimp:=false)(disch:=omega) only [go_sem,Φa,hP,h8_64,h8_6,h8_11,h8_12,h8_14,h8_15,h8_16,hops]
 ((iterate 23 refine ⟨_,Cell.at 4 rfl rfl,?_⟩); rw [lit_g (g := (stepG g f d).1)])
 try refine stI ?_
 try simp (dsimp:=false)(disch:=omega) only [go_sem,Φa,hP,h8_64,h8_6,h8_11,h8_12,h8_14,h8_15,h8_16,hops]
 refine SCall.mono (SCall.of_less lessRows4 (spread_spec (g := (stepG g f d).1) (L := _ :: _ :: _ :: _ :: _ :: _) hP hr1 (by omega))) ?_
 rintro v_ L_ ⟨rfl,rfl⟩
 try refine stI ?_
 try simp (dsimp:=false)(disch:=omega) only [go_sem,Φa,hP,h8_64,h8_6,h8_11,h8_12,h8_14,h8_15,h8_16,hops]
 refine hK12 _ _ ?_
 try clear hK12 K12
 refine SX.seq_k fun K13 hK13=>?_
 refine SX.region_d [some 67,some 68,some 69,some 70,some 71,some 72,some 73,some 74,some 75,some 76,some 77,some 78,none,some 7,some 8] rfl (fun ops hops=>?_)
 unfold Dsts at hops
 simp (dsimp:=false)(disch:=omega) only [go_sem,Φa,hP,h8_64,h8_6,h8_11,h8_12,h8_14,h8_15,h8_16,hops]
 ((iterate 23 refine ⟨_,Cell.at 0 rfl rfl,?_⟩); rw [lit_g (g := (stepG g f d).1)])
 try refine stI ?_
 try simp (dsimp:=false)(disch:=omega) only [go_sem,Φa,hP,h8_64,h8_6,h8_11,h8_12,h8_14,h8_15,h8_16,hops]
 refine ⟨rfl,rfl,11,_,_,_,rfl,Nat.le_refl 23,.inr (Nat.zero_le 0),?_⟩
 try refine stI ?_
 try simp (dsimp:=false)(disch:=omega) only [go_sem,Φa,hP,h8_64,h8_6,h8_11,h8_12,h8_14,h8_15,h8_16,hops]
 rw [put_g rfl]
 refine hK13 _ _ ?_
 try clear hK13 K13
 refine SX.ret ?_
 simp only [andThen_normal,andThen_ret,andThen_exit,inBlk_normal,inBlk_ret,inBlk_exit,Nat.reduceEqDiff,if_true,if_false,↓reduceIte,retQ_ret]
 try simp only [res0,res1,res2,res3,stK_e,resX,resK,oneOr,ld_ptr,loadVC,loadN,List.nil_append,List.cons_append,Nat.reduceAdd,Nat.add_zero,Nat.zero_add,Addr.add_lit,Addr.add_zero',add_addS,T.elA_27,T.lay_27,T.szA_27,T.zr_27,Tryz.underlying27,go_sem,Φa,hP,h8_64,h8_6,h8_11,h8_12,h8_14,h8_15,h8_16]
 refine ⟨_,_,Less.sublist (.cons _ (.cons_cons _ (.cons_cons _ (.cons_cons _ (.cons _ (.cons _ (.cons _ (.cons _ (.cons _ (.cons _ (.cons _ (.cons _ (.cons _ (.cons _ (.cons _ (List.Sublist.refl _)))))))))))))))),⟨_,Cell.at 11 rfl rfl,_,Cell.at 11 rfl rfl,_,Cell.at 11 rfl rfl,_,Cell.at 11 rfl rfl,_,Cell.at 11 rfl rfl,_,Cell.at 11 rfl rfl,_,Cell.at 11 rfl rfl,_,Cell.at 11 rfl rfl,_,Cell.at 11 rfl rfl,_,Cell.at 11 rfl rfl,_,Cell.at 11 rfl rfl,_,Cell.at 11 rfl rfl,_,Cell.at 11 rfl rfl,_,Cell.at 11 rfl rfl,_,Cell.at 11 rfl rfl,_,Cell.at 11 rfl rfl,_,Cell.at 11 rfl rfl,_,Cell.at 11 rfl rfl,_,Cell.at 11 rfl rfl,_,Cell.at 11 rfl rfl,_,Cell.at 11 rfl rfl,_,Cell.at 11 rfl rfl,_,Cell.at 11 rfl rfl,rfl⟩,?_⟩
 exact ⟨_,_,_,m1,m2,m3,rfl,rfl,hr2⟩

end Go.Proofs.YtgioegdjeodpiaaGreat
namespace Go.Proofs.YtgioegdjeodpiaaGreat
open Go.RowKit Go.SX
open Go.SX renaming ia_someH → Φa

abbrev Play := Feed × Int
def playC (p : Play) : List Value := [.int .u8 p.1.rnd,.int .u16 p.1.keys,.int .i64 p.1.key,.int .i64 p.2]
def play0 : Play := (quietD,0)
theorem play_at {Γ : Ctx} {A : Option Addr} {ps : List Play} (hA : ∀ (j : Nat) (x : Play),ps[j]? = some x → ∃ a,A = some a ∧ RS playC (Cell Γ []) (a.add (j * 4)) x) {j : Nat} (hj : j < ps.length) :
  ∃ a,A = some a ∧ Cell Γ [] ((a.add (j * 4)).add 0) (.int .u8 (ps.getD j play0).1.rnd) ∧ Cell Γ [] ((a.add (j * 4)).add 1) (.int .u16 (ps.getD j play0).1.keys) ∧ Cell Γ [] ((a.add (j * 4)).add 2) (.int .i64 (ps.getD j play0).1.key) ∧ Cell Γ [] ((a.add (j * 4)).add 3) (.int .i64 (ps.getD j play0).2) ∧ ps.getD j play0 ∈ ps := by
 have hx : ps[j]? = some (ps.getD j play0) := by rw [List.getD_eq_getElem?_getD,List.getElem?_eq_getElem hj]; rfl
 obtain ⟨a,rfl,h⟩ := hA j _ hx
 exact ⟨a,rfl,h 0 _ rfl,h 1 _ rfl,h 2 _ rfl,h 3 _ rfl,List.mem_of_getElem? hx⟩
structure Fits_ (g : GM) : Prop where
 ok : OkG g
 st : g.st.length ≤ 2147483647
 pg : g.pg.length ≤ 2147483647
 mm : g.mm.length ≤ 2147483647
structure Has (Γ : Ctx) (L : Hp) (g : GM) (sv pv mv : Value) : Prop where
 st : SlI .u16 (Cell Γ L) sv g.st
 pg : SlI .u8 (Cell Γ L) pv g.pg
 mm : SlI .u8 (Cell Γ L) mv g.mm

theorem lessM0 {f g : Slot} {R : Hp} : Less (f :: g :: R) [f,g] := Less.sublist (.cons_cons _ (.cons_cons _ (List.nil_sublist _)))
theorem lessM1 {a f g : Slot} {R : Hp} : Less (a :: f :: g :: R) [f,g] := Less.drops lessM0
theorem lessM3 {x y z f g : Slot} {R : Hp} : Less (x :: y :: z :: f :: g :: R) [f,g] := Less.drops (Less.drops lessM1)
theorem lessM4 {a x y z f g : Slot} {R : Hp} : Less (a :: x :: y :: z :: f :: g :: R) [f,g] := Less.drops lessM3
theorem lessNone3 {u v : Slot} {R : Hp} : Less (u :: v :: R) (u :: v :: none :: none :: none :: R) := ((Less.none _).trans ((Less.none _).trans (Less.none _))).trans (Less.perm ((List.perm_append_comm (l₁ := [none,none,none]) (l₂ := [u,v])).append_right R))
theorem lessIn' {a x y z : Slot} {R : Hp} : Less (x :: y :: z :: a :: R) (a :: x :: y :: z :: R) := Less.perm (List.perm_middle (l₁ := [x,y,z]))
theorem lessPlay {m x y z u v a b c : Slot} {R : Hp} : Less (m :: x :: y :: z :: u :: v :: a :: b :: c :: R) (u :: v :: x :: y :: z :: R) :=
 (Less.sublist (.cons _ (.cons_cons _ (.cons_cons _ (.cons_cons _ (.cons_cons _ (.cons_cons _ (.cons _ (.cons _ (.cons _ (List.Sublist.refl _)))))))))) : Less _ (x :: y :: z :: u :: v :: R)).trans (Less.perm ((List.perm_append_comm (l₁ := [x,y,z]) (l₂ := [u,v])).append_right R))
theorem lessTick {m x y z t e n1 n2 n3 u v a b c : Slot} {R : Hp} : Less (m :: x :: y :: z :: t :: e :: n1 :: n2 :: n3 :: u :: v :: a :: b :: c :: R) (u :: v :: x :: y :: z :: R) :=
 (Less.sublist (.cons_cons _ (.cons_cons _ (.cons_cons _ (.cons_cons _ (.cons _ (.cons _ (.cons _ (.cons _ (.cons _ (List.Sublist.refl _)))))))))) : Less _ (m :: x :: y :: z :: u :: v :: a :: b :: c :: R)).trans lessPlay
set_option maxHeartbeats 1000000 in
set_option maxRecDepth 100000 in
theorem GamePlays_spec {Γ : Ctx} (hP : Γ.P = Tryz.prog) {L : Hp} {g : GM} {sv pv mv : Value} {f : Fnt} {fv lv : Value} {ps : List Play} (hg : OkG g) (hF : OkF f) (hs : SlI .u16 (Cell Γ []) sv g.st) (hp : SlI .u8 (Cell Γ []) pv g.pg) (hm : SlI .u8 (Cell Γ []) mv g.mm) (hf : SlI .u8 (Cell Γ []) fv f.bs) (hl : SlS 4 playC (Cell Γ []) lv ps) (hps : ∀ p ∈ ps,OkD p.1 ∧ -9223372036854775808 ≤ p.2 ∧ p.2 ≤ 9223372036854775807) (hlm : ps.length ≤ 9223372036854775807) :
  SCall Γ 3 #[(.agg (g.cells sv pv mv).toArray),(.agg (f.cells fv).toArray),lv] L (fun v L'=>v = .bool true ∧ L' = L) := by
 obtain ⟨As,cs,rfl,hcs⟩ := slShape hs
 obtain ⟨Ap,cp,rfl,hcp⟩ := slShape hp
 obtain ⟨Am,cm,rfl,hcm⟩ := slShape hm
 obtain ⟨Af,cf,rfl,hcf⟩ := slShape hf
 obtain ⟨A,cl,rfl,hcl,hA⟩ := hl
 refine SCall.enter (n := 90) (res1 6) (hP ▸ Tryz.func3) rfl rfl (by simp) (res1_ok rfl) ?_
 refine SX.seq_k fun K1 hK1=>?_
 refine SX.region_d [some 3,some 4,some 6] rfl (fun ops hops=>?_)
 unfold Dsts at hops
 simp (dsimp:=false)(disch:=omega) only [go_sem,Φa,hP,hops]
 intro b0
 try refine stI ?_
 try simp (dsimp:=false)(disch:=omega) only [go_sem,Φa,hP,hops]
 intro b1
 try refine stI ?_
 try simp (dsimp:=false)(disch:=omega) only [go_sem,Φa,hP,hops]
 refine hK1 _ _ ?_
 try clear hK1 K1
 refine SX.seq_k fun K2 hK2=>?_
 refine SX.region_d [some 19,some 7] rfl (fun ops hops=>?_)
 unfold Dsts at hops
 simp (dsimp:=false)(disch:=omega) only [go_sem,Φa,hP,hops]
 refine SCall.mono (awake_spec hP) ?_
 rintro v_ L_ ⟨hv_,hL_⟩
 rw [hv_,hL_]
 clear hv_ hL_ v_ L_
 try refine stI ?_
 try simp (dsimp:=false)(disch:=omega) only [go_sem,Φa,hP,hops]
 refine hK2 _ _ ?_
 try clear hK2 K2
 refine SX.seq_k fun K3 hK3=>?_
 refine SX.seq_k fun K4 hK4=>?_
 refine SX.region_xd [some 20,some 21,some 22,some 23,some 24,some 25,some 26,some 27] rfl (fun ops hops=>?_)
 unfold Dsts at hops
 refine RX.live [2,3,4,7] (fun T1 hT1=>?_)
 simp only [forall_mem_cons',forall_mem_nil',go_sem,Φa,hP] at hT1
 obtain ⟨h1_2,h1_3,h1_4,h1_7⟩ := hT1
 refine RX.join 8 (fun (ss : Unit) T L'=>T 27 = .bool (vastB g f || decide (2147483647 < ps.length)) ∧ T 2 = T1 2 ∧ T 3 = T1 3 ∧ T 4 = T1 4 ∧ T 7 = T1 7 ∧ L' = some (b1,.cells (f.cells (.slice Af f.bs.length cf)).toArray 30 (0,0)) :: some (b0,.cells (g.cells (.slice As g.st.length cs) (.slice Ap g.pg.length cp) (.slice Am g.mm.length cm)).toArray 27 (0,0)) :: L ∧ (True)) (fun K5 hK5=>?_) ?_
 ·simp only [h1_2,h1_3,h1_4,h1_7] at hK5
  simp (dsimp:=false)(disch:=omega) only [go_sem,Φa,hP,h1_2,h1_3,h1_4,h1_7,hops]
  repeat' (first | refine iteB (fun hg=>?_) (fun hg=>?_) | refine iteI (fun hg=>?_) (fun hg=>?_) | ((first | ((iterate 23 refine ⟨_,Cell.at 1 rfl rfl,?_⟩); rw [lit_g]) | (iterate 18 refine ⟨_,Cell.at 0 rfl rfl,?_⟩) | (refine SCall.mono (vast_spec (g := g) (f := f) hP (SlI.any hs) (SlI.any hp) (SlI.any hm) (SlI.any hf)) ?_; rintro v_ L_ ⟨rfl,rfl⟩) | refine And.intro (by omega) ?_ | (iterate 23 refine ⟨_,Cell.at 0 rfl rfl,?_⟩) | (iterate 23 refine ⟨_,Cell.at 1 rfl rfl,?_⟩) | (iterate 18 refine ⟨_,Cell.at 0 rfl rfl,?_⟩) | (iterate 18 refine ⟨_,Cell.at 1 rfl rfl,?_⟩) | refine ⟨_,Cell.at 0 rfl rfl,?_⟩ | refine ⟨_,Cell.at 1 rfl rfl,?_⟩ | fail); try refine stI ?_; try simp (dsimp:=false)(disch:=omega) only [go_sem,Φa,hP,h1_2,h1_3,h1_4,h1_7,hops]) | simp (dsimp:=false)(disch:=omega) only [go_sem,Φa,hP,h1_2,h1_3,h1_4,h1_7,hops] | fail)
  all_goals
   refine hK5 () _ (some (b1,.cells (f.cells (.slice Af f.bs.length cf)).toArray 30 (0,0)) :: some (b0,.cells (g.cells (.slice As g.st.length cs) (.slice Ap g.pg.length cp) (.slice Am g.mm.length cm)).toArray 27 (0,0)) :: L) _ (by first | exact Less.refl _ | exact Less.drop _ _ | exact Less.drops (Less.drop _ _) | exact Less.drops (Less.drops (Less.drop _ _)) | exact Less.drops (Less.drops (Less.drops (Less.drop _ _))) | exact Less.drops (Less.drops (Less.drops (Less.drops (Less.drop _ _))))) ?_
   try dsimp only
   refine ⟨?_,?_,?_,?_,?_,?_,?_⟩
   ·simp (dsimp:=false)(disch:=omega) only [go_sem,Φa,hP,h1_2,h1_3,h1_4,h1_7]
    first | done | (refine congrArg Value.bool ?_; simp_all; done) | (refine congrArg Value.bool ?_; simp_all; omega)
   ·simp (dsimp:=false)(disch:=omega) only [go_sem,Φa,hP,h1_2,h1_3,h1_4,h1_7]
   ·simp (dsimp:=false)(disch:=omega) only [go_sem,Φa,hP,h1_2,h1_3,h1_4,h1_7]
   ·simp (dsimp:=false)(disch:=omega) only [go_sem,Φa,hP,h1_2,h1_3,h1_4,h1_7]
   ·simp (dsimp:=false)(disch:=omega) only [go_sem,Φa,hP,h1_2,h1_3,h1_4,h1_7]
   ·rfl
   trivial
 intro ss T2 L2 hI
 simp only [h1_2,h1_3,h1_4,h1_7] at hI 
 obtain ⟨h2_27,h2_2,h2_3,h2_4,h2_7,hL2,hinv⟩ := hI
 replace hL2 := hL2.symm
 subst hL2
 clear h1_2 h1_3 h1_4 h1_7 T1
 refine RX.done ?_
 simp (dsimp:=false)(disch:=omega) only [go_sem,Φa,hP,h2_27,h2_2,h2_3,h2_4,h2_7,hops]
 refine hK4 _ _ ?_
 try clear hK4 K4
 refine SX.cond_k fun X6 Y6 hX6 hY6=>?_
 simp (dsimp:=false)(disch:=omega) only [go_sem,Φa,hP,h2_27,h2_2,h2_3,h2_4,h2_7,condVC]
 refine ⟨fun hc27=>hX6 ?_,fun hc27=>hY6 ?_⟩
 ·clear hX6 hY6 X6 Y6
  refine SX.seq_k fun K7 hK7=>?_
  refine SX.region_d [some 6] rfl (fun ops hops=>?_)
  unfold Dsts at hops
  simp (dsimp:=false)(disch:=omega) only [go_sem,Φa,hP,h2_27,h2_2,h2_3,h2_4,h2_7,hops]
  refine hK7 _ _ ?_
  try clear hK7 K7
  refine SX.ret ?_
  simp only [andThen_normal,andThen_ret,andThen_exit,inBlk_normal,inBlk_ret,inBlk_exit,Nat.reduceEqDiff,if_true,if_false,↓reduceIte,retQ_ret]
  try simp only [res0,res1,res2,res3,stK_e,go_sem,Φa,hP,h2_27,h2_2,h2_3,h2_4,h2_7]
  exact ⟨_,_,Less.drops (Less.drop _ _),rfl,rfl,rfl⟩
 clear hX6 hY6 X6 Y6
 refine SX.skip ?_
 try simp only [andThen_normal,andThen_ret,andThen_exit,inBlk_normal,inBlk_ret,inBlk_exit,Nat.reduceEqDiff,if_true,if_false,↓reduceIte]
 refine hK3 _ _ ?_
 try clear hK3 K3
 refine SX.seq_k fun K8 hK8=>?_
 refine SX.seq_k fun K9 hK9=>?_
 have hvb : vastB g f = false ∧ ¬ 2147483647 < ps.length := by simpa using hc27
 obtain ⟨hs1,hs2,hs3,hs4⟩ := vast_no hvb.1
 have hpl := hvb.2
 refine SX.region_d [some 8] rfl (fun ops hops=>?_)
 unfold Dsts at hops
 simp (dsimp:=false)(disch:=omega) only [go_sem,Φa,hP,h2_27,h2_2,h2_3,h2_4,h2_7,hops]
 refine hK9 _ _ ?_
 try clear hK9 K9
 refine SX.block ?_
 refine SX.less lessNone3 ?_
 refine SX.live [2,3,4,7,8] (fun T3 hT3=>?_)
 simp only [forall_mem_cons',forall_mem_nil',go_sem,Φa,hP,h2_27,h2_2,h2_3,h2_4,h2_7] at hT3
 obtain ⟨h3_2,h3_3,h3_4,h3_7,h3_8⟩ := hT3
 clear h2_27 h2_2 h2_3 h2_4 h2_7 T2
 refine SX.loop_k (fun (ss : (Nat) × (GM) × (Value) × (Value) × (Value) × (Slot) × (Slot) × (Slot)) T L'=>(fun (i : Nat) (G : GM) (u1 : Value) (u2 : Value) (u3 : Value) (q1 : Slot) (q2 : Slot) (q3 : Slot)=>T 8 = .int .i64 (i : Int) ∧ T 2 = T3 2 ∧ T 3 = T3 3 ∧ T 4 = T3 4 ∧ T 7 = T3 7 ∧ L' = some (b1,.cells (f.cells (.slice Af f.bs.length cf)).toArray 30 (0,0)) :: some (b0,.cells (GM.cells G u1 u2 u3).toArray 27 (0,0)) :: q1 :: q2 :: q3 :: L ∧ (i ≤ ps.length ∧ Fits_ G ∧ Has Γ (q1 :: q2 :: q3 :: L) G u1 u2 u3)) (ss.1) (ss.2.1) (ss.2.2.1) (ss.2.2.2.1) (ss.2.2.2.2.1) (ss.2.2.2.2.2.1) (ss.2.2.2.2.2.2.1) (ss.2.2.2.2.2.2.2)) (fun (ss : (Nat) × (GM) × (Value) × (Value) × (Value) × (Slot) × (Slot) × (Slot))=>(fun (i : Nat) (G : GM) (u1 : Value) (u2 : Value) (u3 : Value) (q1 : Slot) (q2 : Slot) (q3 : Slot)=>ps.length - i) (ss.1) (ss.2.1) (ss.2.2.1) (ss.2.2.2.1) (ss.2.2.2.2.1) (ss.2.2.2.2.2.1) (ss.2.2.2.2.2.2.1) (ss.2.2.2.2.2.2.2)) (0,g,.slice As g.st.length cs,.slice Ap g.pg.length cp,.slice Am g.mm.length cm,none,none,none) ?_ ?_
 ·try dsimp only
  refine ⟨?_,?_,?_,?_,?_,?_,?_⟩
  ·first | exact h3_8 | (rw [h3_8]; rfl) | (rw [h3_8]; simp; done)
  ·rfl
  ·rfl
  ·rfl
  ·rfl
  ·rfl
  exact ⟨Nat.zero_le _,⟨hg,hs1,hs2,hs3⟩,⟨SlI.any hs,SlI.any hp,SlI.any hm⟩⟩
 intro ss T4 L4 hI K10 hK10
 obtain ⟨i,G,u1,u2,u3,q1,q2,q3⟩ := ss
 try dsimp only at hI hK10
 simp only [h3_2,h3_3,h3_4,h3_7] at hI hK10
 obtain ⟨h4_8,h4_2,h4_3,h4_4,h4_7,hL4,⟨hi,hG,hH⟩⟩ := hI
 replace hL4 := hL4.symm
 subst hL4
 clear h3_2 h3_3 h3_4 h3_7 h3_8 T3
 refine SX.seq_k fun K11 hK11=>?_
 refine SX.seq_k fun K12 hK12=>?_
 refine SX.region_d [some 28,some 29,some 30,some 31] rfl (fun ops hops=>?_)
 unfold Dsts at hops
 simp (dsimp:=false)(disch:=omega) only [go_sem,Φa,hP,h4_8,h4_2,h4_3,h4_4,h4_7,hops]
 repeat' ((first | refine And.intro (by omega) ?_ | fail); try refine stI ?_; try simp (dsimp:=false)(disch:=omega) only [go_sem,Φa,hP,h4_8,h4_2,h4_3,h4_4,h4_7,hops])
 refine hK12 _ _ ?_
 try clear hK12 K12
 refine SX.cond_k fun X13 Y13 hX13 hY13=>?_
 simp (dsimp:=false)(disch:=omega) only [go_sem,Φa,hP,h4_8,h4_2,h4_3,h4_4,h4_7,condVC]
 refine ⟨fun hc31=>hX13 ?_,fun hc31=>hY13 ?_⟩
 ·clear hX13 hY13 X13 Y13
  refine SX.skip ?_
  try simp only [andThen_normal,andThen_ret,andThen_exit,inBlk_normal,inBlk_ret,inBlk_exit,Nat.reduceEqDiff,if_true,if_false,↓reduceIte]
  refine hK11 _ _ ?_
  try clear hK11 K11
  refine SX.seq_k fun K14 hK14=>?_
  refine SX.block ?_
  refine SX.live [2,3,4,7,8] (fun T5 hT5=>?_)
  simp only [forall_mem_cons',forall_mem_nil',go_sem,Φa,hP,h4_8,h4_2,h4_3,h4_4,h4_7] at hT5
  obtain ⟨h5_2,h5_3,h5_4,h5_7,h5_8⟩ := hT5
  clear h4_8 h4_2 h4_3 h4_4 h4_7 T4
  obtain ⟨Asx,csx,hv1,hcsx⟩ := slShape hH.st
  obtain ⟨Apx,cpx,hv2,hcpx⟩ := slShape hH.pg
  obtain ⟨Amx,cmx,hv3,hcmx⟩ := slShape hH.mm
  subst hv1 hv2 hv3
  have hokx := hG.ok
  have hz1x := hG.st
  have hz2x := hG.pg
  have hz3x := hG.mm
  obtain ⟨a,rfl,hc0,hc1,hc2,hc3,hin⟩ := play_at hA (j := i) (by omega)
  obtain ⟨hdk,htk⟩ := hps _ hin
  obtain ⟨⟨pd,pt⟩,hpe⟩ : ∃ p,ps.getD i play0 = p := ⟨_,rfl⟩
  rw [hpe] at hc0 hc1 hc2 hc3 hdk htk
  dsimp only at hc0 hc1 hc2 hc3 hdk htk
  have hsk := stepG_ok hokx hF hdk
  obtain ⟨ht1,ht2,ht3⟩ := stepG_small hokx hF hdk
  refine SX.join (fun (ss : (Nat) × (Value) × (Value) × (Value) × (Slot) × (Slot) × (Slot)) T L'=>(fun (b9 : Nat) (sv1 : Value) (pv1 : Value) (mv1 : Value) (n1 : Slot) (n2 : Slot) (n3 : Slot)=>T 9 = .pointer (some ⟨b9,0,none⟩) ∧ T 10 = .int .u8 (stepG G f pd).2.1 ∧ T 11 = .bool true ∧ T 2 = T5 2 ∧ T 3 = T5 3 ∧ T 4 = T5 4 ∧ T 7 = T5 7 ∧ T 8 = T5 8 ∧ L' = some (b9,.cells (GM.cells (stepG G f pd).1 sv1 pv1 mv1).toArray 27 (0,0)) :: n1 :: n2 :: n3 :: some (b1,.cells (f.cells (.slice Af f.bs.length cf)).toArray 30 (0,0)) :: some (b0,.cells (GM.cells G (.slice Asx G.st.length csx) (.slice Apx G.pg.length cpx) (.slice Amx G.mm.length cmx)).toArray 27 (0,0)) :: q1 :: q2 :: q3 :: L ∧ (Rows (stepG G f pd).1 sv1 pv1 mv1 n1 n2 n3)) (ss.1) (ss.2.1) (ss.2.2.1) (ss.2.2.2.1) (ss.2.2.2.2.1) (ss.2.2.2.2.2.1) (ss.2.2.2.2.2.2)) (fun K15 hK15=>?_) ?_
  ·simp only [h5_2,h5_3,h5_4,h5_7,h5_8] at hK15
   refine SX.tg_d (M := [some (b1,.cells (f.cells (.slice Af f.bs.length cf)).toArray 30 (0,0)),some (b0,.cells (GM.cells G (.slice Asx G.st.length csx) (.slice Apx G.pg.length cpx) (.slice Amx G.mm.length cmx)).toArray 27 (0,0))]) (.q 0 (.q 1 (.q 2 (.q 3 (.q 4 (.q 5 (.q 6 (.e 7 (.q 8 (.q 9 (.q 10 (.q 11 (.e 12 (.e 13 (.q 14 (.q 15 (.nil))) (.z)) (.z)))))) (.e 12 (.e 7 (.q 8 (.q 9 (.q 10 (.q 11 (.e 13 (.q 14 (.q 15 (.nil))) (.z)))))) (.z)) (.z)))))))))) (by exact lessM0) (hP ▸ T.mixed) (by kernel_rfl) [some 35,some 36,some 37,some 38,some 39,some 40,some 41,some 42,some 34,some 43,some 44,some 45,some 9,none,some 10,some 11] rfl (fun ops hops hopl=>?_)
   unfold Dsts at hops
   simp (dsimp:=false)(disch:=omega) only [go_sem,Φa,hP,h5_2,h5_3,h5_4,h5_7,h5_8,hops,hopl]
   ((iterate 23 refine ⟨_,Cell.at 1 rfl rfl,?_⟩); rw [lit_g (g := G)])
   try refine stI ?_
   try simp (dsimp:=false)(disch:=omega) only [go_sem,Φa,hP,h5_2,h5_3,h5_4,h5_7,h5_8,hops,hopl]
   (iterate 18 refine ⟨_,Cell.at 0 rfl rfl,?_⟩)
   try refine stI ?_
   try simp (dsimp:=false)(disch:=omega) only [go_sem,Φa,hP,h5_2,h5_3,h5_4,h5_7,h5_8,hops,hopl]
   refine ⟨_,Cell.any hc0,_,Cell.any hc1,_,Cell.any hc2,?_⟩
   try refine stI ?_
   try simp (dsimp:=false)(disch:=omega) only [go_sem,Φa,hP,h5_2,h5_3,h5_4,h5_7,h5_8,hops,hopl]
   refine And.intro ?_ ?_
   ·try refine stI ?_
    try simp (dsimp:=false)(disch:=omega) only [go_sem,Φa,hP,h5_2,h5_3,h5_4,h5_7,h5_8,hops,hopl]
    refine SCall.mono (step_spec (g := G) (f := f) (d := pd) hP hokx hF hdk (SlI.cons _ (SlI.cons _ hH.st)) (SlI.cons _ (SlI.cons _ hH.pg)) (SlI.cons _ (SlI.cons _ hH.mm)) (SlI.any hf) (by omega) (by omega) (by omega) (by omega)) ?_
    rintro v_ L_ ⟨sv1,pv1,mv1,n1,n2,n3,rfl,rfl,hr1⟩
    obtain ⟨A1st,c1st,rfl,hc1st⟩ := rowShape hr1.st
    obtain ⟨A1pg,c1pg,rfl,hc1pg⟩ := rowShape hr1.pg
    obtain ⟨A1mm,c1mm,rfl,hc1mm⟩ := rowShape hr1.mm
    try refine stI ?_
    try simp (dsimp:=false)(disch:=omega) only [go_sem,Φa,hP,h5_2,h5_3,h5_4,h5_7,h5_8,hops,hopl]
    refine And.intro lessM3 ?_
    try refine stI ?_
    try simp (dsimp:=false)(disch:=omega) only [go_sem,Φa,hP,h5_2,h5_3,h5_4,h5_7,h5_8,hops,hopl]
    intro b9
    try refine stI ?_
    try simp (dsimp:=false)(disch:=omega) only [go_sem,Φa,hP,h5_2,h5_3,h5_4,h5_7,h5_8,hops,hopl]
    refine And.intro lessM4 ?_
    try refine stI ?_
    try simp (dsimp:=false)(disch:=omega) only [go_sem,Φa,hP,h5_2,h5_3,h5_4,h5_7,h5_8,hops,hopl]
    refine ⟨rfl,rfl,0,_,_,_,rfl,Nat.le_refl 23,.inr (Nat.zero_le 0),?_⟩
    try refine stI ?_
    try simp (dsimp:=false)(disch:=omega) only [go_sem,Φa,hP,h5_2,h5_3,h5_4,h5_7,h5_8,hops,hopl]
    rw [put_g rfl]
    refine And.intro lessM4 ?_
    try refine stI ?_
    try simp (dsimp:=false)(disch:=omega) only [go_sem,Φa,hP,h5_2,h5_3,h5_4,h5_7,h5_8,hops,hopl]
    refine hK15 (b9,(.slice A1st (stepG G f pd).1.st.length c1st),(.slice A1pg (stepG G f pd).1.pg.length c1pg),(.slice A1mm (stepG G f pd).1.mm.length c1mm),n1,n2,n3) _ (some (b9,.cells (GM.cells (stepG G f pd).1 (.slice A1st (stepG G f pd).1.st.length c1st) (.slice A1pg (stepG G f pd).1.pg.length c1pg) (.slice A1mm (stepG G f pd).1.mm.length c1mm)).toArray 27 (0,0)) :: n1 :: n2 :: n3 :: some (b1,.cells (f.cells (.slice Af f.bs.length cf)).toArray 30 (0,0)) :: some (b0,.cells (GM.cells G (.slice Asx G.st.length csx) (.slice Apx G.pg.length cpx) (.slice Amx G.mm.length cmx)).toArray 27 (0,0)) :: q1 :: q2 :: q3 :: L) _ (by exact Less.refl _) ?_
    try dsimp only
    refine ⟨?_,?_,?_,?_,?_,?_,?_,?_,?_,?_⟩
    ·simp (dsimp:=false)(disch:=omega) only [go_sem,Φa,hP,h5_2,h5_3,h5_4,h5_7,h5_8]
     first | done | rfl | skip
    ·simp (dsimp:=false)(disch:=omega) only [go_sem,Φa,hP,h5_2,h5_3,h5_4,h5_7,h5_8]
     first | done | rfl | skip
    ·simp (dsimp:=false)(disch:=omega) only [go_sem,Φa,hP,h5_2,h5_3,h5_4,h5_7,h5_8]
     first | done | rfl | skip
    ·simp (dsimp:=false)(disch:=omega) only [go_sem,Φa,hP,h5_2,h5_3,h5_4,h5_7,h5_8]
    ·simp (dsimp:=false)(disch:=omega) only [go_sem,Φa,hP,h5_2,h5_3,h5_4,h5_7,h5_8]
    ·simp (dsimp:=false)(disch:=omega) only [go_sem,Φa,hP,h5_2,h5_3,h5_4,h5_7,h5_8]
    ·simp (dsimp:=false)(disch:=omega) only [go_sem,Φa,hP,h5_2,h5_3,h5_4,h5_7,h5_8]
    ·simp (dsimp:=false)(disch:=omega) only [go_sem,Φa,hP,h5_2,h5_3,h5_4,h5_7,h5_8]
    ·rfl
    exact hr1
   try refine stI ?_
   try simp (dsimp:=false)(disch:=omega) only [go_sem,Φa,hP,h5_2,h5_3,h5_4,h5_7,h5_8,hops,hopl]
   intro b9
   try refine stI ?_
   try simp (dsimp:=false)(disch:=omega) only [go_sem,Φa,hP,h5_2,h5_3,h5_4,h5_7,h5_8,hops,hopl]
   refine And.intro lessM1 ?_
   try refine stI ?_
   try simp (dsimp:=false)(disch:=omega) only [go_sem,Φa,hP,h5_2,h5_3,h5_4,h5_7,h5_8,hops,hopl]
   refine SCall.mono (step_spec (g := G) (f := f) (d := pd) hP hokx hF hdk (SlI.cons _ (SlI.cons _ (SlI.cons _ hH.st))) (SlI.cons _ (SlI.cons _ (SlI.cons _ hH.pg))) (SlI.cons _ (SlI.cons _ (SlI.cons _ hH.mm))) (SlI.any hf) (by omega) (by omega) (by omega) (by omega)) ?_
   rintro v_ L_ ⟨sv1,pv1,mv1,n1,n2,n3,rfl,rfl,hr1⟩
   obtain ⟨A1st,c1st,rfl,hc1st⟩ := rowShape hr1.st
   obtain ⟨A1pg,c1pg,rfl,hc1pg⟩ := rowShape hr1.pg
   obtain ⟨A1mm,c1mm,rfl,hc1mm⟩ := rowShape hr1.mm
   try refine stI ?_
   try simp (dsimp:=false)(disch:=omega) only [go_sem,Φa,hP,h5_2,h5_3,h5_4,h5_7,h5_8,hops,hopl]
   refine And.intro lessM4 ?_
   try refine stI ?_
   try simp (dsimp:=false)(disch:=omega) only [go_sem,Φa,hP,h5_2,h5_3,h5_4,h5_7,h5_8,hops,hopl]
   refine ⟨rfl,rfl,3,_,_,_,rfl,Nat.le_refl 23,.inr (Nat.zero_le 0),?_⟩
   try refine stI ?_
   try simp (dsimp:=false)(disch:=omega) only [go_sem,Φa,hP,h5_2,h5_3,h5_4,h5_7,h5_8,hops,hopl]
   rw [put_g rfl]
   refine And.intro lessM4 ?_
   try refine stI ?_
   try simp (dsimp:=false)(disch:=omega) only [go_sem,Φa,hP,h5_2,h5_3,h5_4,h5_7,h5_8,hops,hopl]
   refine hK15 (b9,(.slice A1st (stepG G f pd).1.st.length c1st),(.slice A1pg (stepG G f pd).1.pg.length c1pg),(.slice A1mm (stepG G f pd).1.mm.length c1mm),n1,n2,n3) _ (some (b9,.cells (GM.cells (stepG G f pd).1 (.slice A1st (stepG G f pd).1.st.length c1st) (.slice A1pg (stepG G f pd).1.pg.length c1pg) (.slice A1mm (stepG G f pd).1.mm.length c1mm)).toArray 27 (0,0)) :: n1 :: n2 :: n3 :: some (b1,.cells (f.cells (.slice Af f.bs.length cf)).toArray 30 (0,0)) :: some (b0,.cells (GM.cells G (.slice Asx G.st.length csx) (.slice Apx G.pg.length cpx) (.slice Amx G.mm.length cmx)).toArray 27 (0,0)) :: q1 :: q2 :: q3 :: L) _ (by exact lessIn') ?_
   try dsimp only
   refine ⟨?_,?_,?_,?_,?_,?_,?_,?_,?_,?_⟩
   ·simp (dsimp:=false)(disch:=omega) only [go_sem,Φa,hP,h5_2,h5_3,h5_4,h5_7,h5_8]
    first | done | rfl | skip
   ·simp (dsimp:=false)(disch:=omega) only [go_sem,Φa,hP,h5_2,h5_3,h5_4,h5_7,h5_8]
    first | done | rfl | skip
   ·simp (dsimp:=false)(disch:=omega) only [go_sem,Φa,hP,h5_2,h5_3,h5_4,h5_7,h5_8]
    first | done | rfl | skip
   ·simp (dsimp:=false)(disch:=omega) only [go_sem,Φa,hP,h5_2,h5_3,h5_4,h5_7,h5_8]
   ·simp (dsimp:=false)(disch:=omega) only [go_sem,Φa,hP,h5_2,h5_3,h5_4,h5_7,h5_8]
   ·simp (dsimp:=false)(disch:=omega) only [go_sem,Φa,hP,h5_2,h5_3,h5_4,h5_7,h5_8]
   ·simp (dsimp:=false)(disch:=omega) only [go_sem,Φa,hP,h5_2,h5_3,h5_4,h5_7,h5_8]
   ·simp (dsimp:=false)(disch:=omega) only [go_sem,Φa,hP,h5_2,h5_3,h5_4,h5_7,h5_8]
   ·rfl
   exact hr1
  intro ss T6 L6 hI
  obtain ⟨b9,sv1,pv1,mv1,n1,n2,n3⟩ := ss
  try dsimp only at hI 
  simp only [h5_2,h5_3,h5_4,h5_7,h5_8] at hI 
  obtain ⟨h6_9,h6_10,h6_11,h6_2,h6_3,h6_4,h6_7,h6_8,hL6,hr1⟩ := hI
  replace hL6 := hL6.symm
  subst hL6
  clear h5_2 h5_3 h5_4 h5_7 h5_8 T5
  refine SX.seq_k fun K16 hK16=>?_
  refine SX.seq_k fun K17 hK17=>?_
  obtain ⟨A1st,c1st,rfl,hc1st⟩ := rowShape hr1.st
  obtain ⟨A1pg,c1pg,rfl,hc1pg⟩ := rowShape hr1.pg
  obtain ⟨A1mm,c1mm,rfl,hc1mm⟩ := rowShape hr1.mm
  refine SX.region_d [some 46,some 47] rfl (fun ops hops=>?_)
  unfold Dsts at hops
  simp (dsimp:=false)(disch:=omega) only [go_sem,Φa,hP,h6_9,h6_10,h6_11,h6_2,h6_3,h6_4,h6_7,h6_8,hops]
  refine hK17 _ _ ?_
  try clear hK17 K17
  refine SX.cond_k fun X18 Y18 hX18 hY18=>?_
  simp (dsimp:=false)(disch:=omega) only [go_sem,Φa,hP,h6_9,h6_10,h6_11,h6_2,h6_3,h6_4,h6_7,h6_8,condVC]
  refine hY18 ?_
  clear hX18 hY18 X18 Y18
  refine SX.skip ?_
  try simp only [andThen_normal,andThen_ret,andThen_exit,inBlk_normal,inBlk_ret,inBlk_exit,Nat.reduceEqDiff,if_true,if_false,↓reduceIte]
  refine hK16 _ _ ?_
  try clear hK16 K16
  refine SX.live [2,3,4,7,8,9,10] (fun T7 hT7=>?_)
  simp only [forall_mem_cons',forall_mem_nil',go_sem,Φa,hP,h6_9,h6_10,h6_11,h6_2,h6_3,h6_4,h6_7,h6_8] at hT7
  obtain ⟨h7_2,h7_3,h7_4,h7_7,h7_8,h7_9,h7_10⟩ := hT7
  clear h6_9 h6_10 h6_11 h6_2 h6_3 h6_4 h6_7 h6_8 T6
  refine SX.join (fun (ss : (GM) × (Value) × (Value) × (Value) × (Slot) × (Slot) × (Slot)) T L'=>(fun (G2 : GM) (w1 : Value) (w2 : Value) (w3 : Value) (p1 : Slot) (p2 : Slot) (p3 : Slot)=>T 2 = T7 2 ∧ T 3 = T7 3 ∧ T 4 = T7 4 ∧ T 7 = T7 7 ∧ T 8 = T7 8 ∧ L' = some (b1,.cells (f.cells (.slice Af f.bs.length cf)).toArray 30 (0,0)) :: some (b0,.cells (GM.cells G2 w1 w2 w3).toArray 27 (0,0)) :: p1 :: p2 :: p3 :: L ∧ (Fits_ G2 ∧ Has Γ (p1 :: p2 :: p3 :: L) G2 w1 w2 w3)) (ss.1) (ss.2.1) (ss.2.2.1) (ss.2.2.2.1) (ss.2.2.2.2.1) (ss.2.2.2.2.2.1) (ss.2.2.2.2.2.2)) (fun K19 hK19=>?_) ?_
  ·simp only [h7_2,h7_3,h7_4,h7_7,h7_8] at hK19
   refine SX.seq_k fun K20 hK20=>?_
   refine SX.region_d [some 48,some 49] rfl (fun ops hops=>?_)
   unfold Dsts at hops
   simp (dsimp:=false)(disch:=omega) only [go_sem,Φa,hP,h7_2,h7_3,h7_4,h7_7,h7_8,h7_9,h7_10,hops]
   repeat' ((first | refine And.intro (by omega) ?_ | fail); try refine stI ?_; try simp (dsimp:=false)(disch:=omega) only [go_sem,Φa,hP,h7_2,h7_3,h7_4,h7_7,h7_8,h7_9,h7_10,hops])
   refine hK20 _ _ ?_
   try clear hK20 K20
   refine SX.cond_k fun X21 Y21 hX21 hY21=>?_
   simp (dsimp:=false)(disch:=omega) only [go_sem,Φa,hP,h7_2,h7_3,h7_4,h7_7,h7_8,h7_9,h7_10,condVC]
   refine ⟨fun hc49=>hX21 ?_,fun hc49=>hY21 ?_⟩
   ·clear hX21 hY21 X21 Y21
    refine SX.region_d [some 50,none] rfl (fun ops hops=>?_)
    unfold Dsts at hops
    simp (dsimp:=false)(disch:=omega) only [go_sem,Φa,hP,h7_2,h7_3,h7_4,h7_7,h7_8,h7_9,h7_10,hops]
    ((iterate 23 refine ⟨_,Cell.at 0 rfl rfl,?_⟩); rw [lit_g (g := (stepG G f pd).1)])
    try refine stI ?_
    try simp (dsimp:=false)(disch:=omega) only [go_sem,Φa,hP,h7_2,h7_3,h7_4,h7_7,h7_8,h7_9,h7_10,hops]
    refine ⟨rfl,rfl,5,_,_,_,rfl,Nat.le_refl 23,.inr (Nat.zero_le 0),?_⟩
    try refine stI ?_
    try simp (dsimp:=false)(disch:=omega) only [go_sem,Φa,hP,h7_2,h7_3,h7_4,h7_7,h7_8,h7_9,h7_10,hops]
    rw [put_g rfl]
    refine hK19 ((stepG G f pd).1,(.slice A1st (stepG G f pd).1.st.length c1st),(.slice A1pg (stepG G f pd).1.pg.length c1pg),(.slice A1mm (stepG G f pd).1.mm.length c1mm),n1,n2,n3) _ (some (b1,.cells (f.cells (.slice Af f.bs.length cf)).toArray 30 (0,0)) :: some (b0,.cells (GM.cells (stepG G f pd).1 (.slice A1st (stepG G f pd).1.st.length c1st) (.slice A1pg (stepG G f pd).1.pg.length c1pg) (.slice A1mm (stepG G f pd).1.mm.length c1mm)).toArray 27 (0,0)) :: n1 :: n2 :: n3 :: L) _ (by exact lessPlay) ?_
    try dsimp only
    refine ⟨?_,?_,?_,?_,?_,?_,?_⟩
    ·simp (dsimp:=false)(disch:=omega) only [go_sem,Φa,hP,h7_2,h7_3,h7_4,h7_7,h7_8,h7_9,h7_10]
    ·simp (dsimp:=false)(disch:=omega) only [go_sem,Φa,hP,h7_2,h7_3,h7_4,h7_7,h7_8,h7_9,h7_10]
    ·simp (dsimp:=false)(disch:=omega) only [go_sem,Φa,hP,h7_2,h7_3,h7_4,h7_7,h7_8,h7_9,h7_10]
    ·simp (dsimp:=false)(disch:=omega) only [go_sem,Φa,hP,h7_2,h7_3,h7_4,h7_7,h7_8,h7_9,h7_10]
    ·simp (dsimp:=false)(disch:=omega) only [go_sem,Φa,hP,h7_2,h7_3,h7_4,h7_7,h7_8,h7_9,h7_10]
    ·rfl
    exact ⟨⟨hsk,by omega,by omega,by omega⟩,⟨RowI.sl (i := 0) hr1.st rfl,RowI.sl (i := 1) hr1.pg rfl,RowI.sl (i := 2) hr1.mm rfl⟩⟩
   clear hX21 hY21 X21 Y21
   refine SX.skip ?_
   try simp only [andThen_normal,andThen_ret,andThen_exit,inBlk_normal,inBlk_ret,inBlk_exit,Nat.reduceEqDiff,if_true,if_false,↓reduceIte]
   refine hK19 (G,.slice Asx G.st.length csx,.slice Apx G.pg.length cpx,.slice Amx G.mm.length cmx,q1,q2,q3) _ (some (b1,.cells (f.cells (.slice Af f.bs.length cf)).toArray 30 (0,0)) :: some (b0,.cells (GM.cells G (.slice Asx G.st.length csx) (.slice Apx G.pg.length cpx) (.slice Amx G.mm.length cmx)).toArray 27 (0,0)) :: q1 :: q2 :: q3 :: L) _ (by exact Less.drops (Less.drops (Less.drops (Less.drop _ _)))) ?_
   try dsimp only
   refine ⟨?_,?_,?_,?_,?_,?_,?_⟩
   ·simp (dsimp:=false)(disch:=omega) only [go_sem,Φa,hP,h7_2,h7_3,h7_4,h7_7,h7_8,h7_9,h7_10]
   ·simp (dsimp:=false)(disch:=omega) only [go_sem,Φa,hP,h7_2,h7_3,h7_4,h7_7,h7_8,h7_9,h7_10]
   ·simp (dsimp:=false)(disch:=omega) only [go_sem,Φa,hP,h7_2,h7_3,h7_4,h7_7,h7_8,h7_9,h7_10]
   ·simp (dsimp:=false)(disch:=omega) only [go_sem,Φa,hP,h7_2,h7_3,h7_4,h7_7,h7_8,h7_9,h7_10]
   ·simp (dsimp:=false)(disch:=omega) only [go_sem,Φa,hP,h7_2,h7_3,h7_4,h7_7,h7_8,h7_9,h7_10]
   ·rfl
   exact ⟨hG,hH⟩
  intro ss T8 L8 hI
  obtain ⟨G2,w1,w2,w3,p1,p2,p3⟩ := ss
  try dsimp only at hI 
  simp only [h7_2,h7_3,h7_4,h7_7,h7_8] at hI 
  obtain ⟨h8_2,h8_3,h8_4,h8_7,h8_8,hL8,⟨hG2,hH2⟩⟩ := hI
  replace hL8 := hL8.symm
  subst hL8
  clear h7_2 h7_3 h7_4 h7_7 h7_8 h7_9 h7_10 T7
  refine SX.seq_k fun K22 hK22=>?_
  have hpk := pickI_lt (c := pt) (n := 3) (by decide)
  refine SX.region_d [some 12] rfl (fun ops hops=>?_)
  unfold Dsts at hops
  simp (dsimp:=false)(disch:=omega) only [go_sem,Φa,hP,h8_2,h8_3,h8_4,h8_7,h8_8,hops]
  refine hK22 _ _ ?_
  try clear hK22 K22
  refine SX.block ?_
  refine SX.live [2,3,4,7,8,12] (fun T9 hT9=>?_)
  simp only [forall_mem_cons',forall_mem_nil',go_sem,Φa,hP,h8_2,h8_3,h8_4,h8_7,h8_8] at hT9
  obtain ⟨h9_2,h9_3,h9_4,h9_7,h9_8,h9_12⟩ := hT9
  clear h8_2 h8_3 h8_4 h8_7 h8_8 T8
  refine SX.loop_k (fun (ss : (Nat) × (GM) × (Value) × (Value) × (Value) × (Slot) × (Slot) × (Slot)) T L'=>(fun (k : Nat) (G4 : GM) (y1 : Value) (y2 : Value) (y3 : Value) (r1 : Slot) (r2 : Slot) (r3 : Slot)=>T 12 = .int .i64 (k : Int) ∧ T 2 = T9 2 ∧ T 3 = T9 3 ∧ T 4 = T9 4 ∧ T 7 = T9 7 ∧ T 8 = T9 8 ∧ L' = some (b1,.cells (f.cells (.slice Af f.bs.length cf)).toArray 30 (0,0)) :: some (b0,.cells (GM.cells G4 y1 y2 y3).toArray 27 (0,0)) :: r1 :: r2 :: r3 :: L ∧ (k ≤ (pickI pt 3).toNat ∧ Fits_ G4 ∧ Has Γ (r1 :: r2 :: r3 :: L) G4 y1 y2 y3)) (ss.1) (ss.2.1) (ss.2.2.1) (ss.2.2.2.1) (ss.2.2.2.2.1) (ss.2.2.2.2.2.1) (ss.2.2.2.2.2.2.1) (ss.2.2.2.2.2.2.2)) (fun (ss : (Nat) × (GM) × (Value) × (Value) × (Value) × (Slot) × (Slot) × (Slot))=>(fun (k : Nat) (G4 : GM) (y1 : Value) (y2 : Value) (y3 : Value) (r1 : Slot) (r2 : Slot) (r3 : Slot)=>(pickI pt 3).toNat - k) (ss.1) (ss.2.1) (ss.2.2.1) (ss.2.2.2.1) (ss.2.2.2.2.1) (ss.2.2.2.2.2.1) (ss.2.2.2.2.2.2.1) (ss.2.2.2.2.2.2.2)) (0,G2,w1,w2,w3,p1,p2,p3) ?_ ?_
  ·try dsimp only
   refine ⟨?_,?_,?_,?_,?_,?_,?_,?_⟩
   ·first | exact h9_12 | (rw [h9_12]; rfl) | (rw [h9_12]; simp; done)
   ·rfl
   ·rfl
   ·rfl
   ·rfl
   ·rfl
   ·rfl
   exact ⟨Nat.zero_le _,hG2,hH2⟩
  intro ss T10 L10 hI K23 hK23
  obtain ⟨k,G4,y1,y2,y3,r1,r2,r3⟩ := ss
  try dsimp only at hI hK23
  simp only [h9_2,h9_3,h9_4,h9_7,h9_8] at hI hK23
  obtain ⟨h10_12,h10_2,h10_3,h10_4,h10_7,h10_8,hL10,⟨hk,hG4,hH4⟩⟩ := hI
  replace hL10 := hL10.symm
  subst hL10
  clear h9_2 h9_3 h9_4 h9_7 h9_8 h9_12 T9
  refine SX.seq_k fun K24 hK24=>?_
  refine SX.seq_k fun K25 hK25=>?_
  refine SX.region_d [some 51,some 52,some 53,some 54,some 55,some 56,some 57,some 58] rfl (fun ops hops=>?_)
  unfold Dsts at hops
  simp (dsimp:=false)(disch:=omega) only [go_sem,Φa,hP,h10_12,h10_2,h10_3,h10_4,h10_7,h10_8,hops]
  refine ⟨_,Cell.any hc3,?_⟩
  try refine stI ?_
  try simp (dsimp:=false)(disch:=omega) only [go_sem,Φa,hP,h10_12,h10_2,h10_3,h10_4,h10_7,h10_8,hops]
  refine SCall.mono (pick_spec (c := pt) (n := 3) hP htk (by decide)) ?_
  rintro v_ L_ ⟨hv_,hL_⟩
  rw [hv_,hL_]
  clear hv_ hL_ v_ L_
  try refine stI ?_
  try simp (dsimp:=false)(disch:=omega) only [go_sem,Φa,hP,h10_12,h10_2,h10_3,h10_4,h10_7,h10_8,hops]
  refine hK25 _ _ ?_
  try clear hK25 K25
  refine SX.cond_k fun X26 Y26 hX26 hY26=>?_
  simp (dsimp:=false)(disch:=omega) only [go_sem,Φa,hP,h10_12,h10_2,h10_3,h10_4,h10_7,h10_8,condVC]
  refine ⟨fun hc58=>hX26 ?_,fun hc58=>hY26 ?_⟩
  ·clear hX26 hY26 X26 Y26
   refine SX.skip ?_
   try simp only [andThen_normal,andThen_ret,andThen_exit,inBlk_normal,inBlk_ret,inBlk_exit,Nat.reduceEqDiff,if_true,if_false,↓reduceIte]
   refine hK24 _ _ ?_
   try clear hK24 K24
   refine SX.seq_k fun K27 hK27=>?_
   refine SX.block ?_
   refine SX.seq_k fun K28 hK28=>?_
   obtain ⟨Asz,csz,hv1,hcsz⟩ := slShape hH4.st
   obtain ⟨Apz,cpz,hv2,hcpz⟩ := slShape hH4.pg
   obtain ⟨Amz,cmz,hv3,hcmz⟩ := slShape hH4.mm
   subst hv1 hv2 hv3
   have hokz := hG4.ok
   have hz1z := hG4.st
   have hz2z := hG4.pg
   have hz3z := hG4.mm
   have htk4 := tickG_ok hokz
   obtain ⟨he1,he2,he3⟩ := tickG_small hokz
   refine SX.region_d [some 61,some 62,some 13,none] rfl (fun ops hops=>?_)
   unfold Dsts at hops
   simp (dsimp:=false)(disch:=omega) only [go_sem,Φa,hP,h10_12,h10_2,h10_3,h10_4,h10_7,h10_8,hops]
   ((iterate 23 refine ⟨_,Cell.at 1 rfl rfl,?_⟩); rw [lit_g (g := G4)])
   try refine stI ?_
   try simp (dsimp:=false)(disch:=omega) only [go_sem,Φa,hP,h10_12,h10_2,h10_3,h10_4,h10_7,h10_8,hops]
   refine SCall.mono (lentGame_spec (g := G4) hP (SlI.cons _ (SlI.cons _ hH4.st)) (SlI.cons _ (SlI.cons _ hH4.pg)) (SlI.cons _ (SlI.cons _ hH4.mm)) (by omega) (by omega) (by omega)) ?_
   rintro v_ L_ ⟨l1,l2,l3,rfl,rfl⟩
   try refine stI ?_
   try simp (dsimp:=false)(disch:=omega) only [go_sem,Φa,hP,h10_12,h10_2,h10_3,h10_4,h10_7,h10_8,hops]
   intro b13
   try refine stI ?_
   try simp (dsimp:=false)(disch:=omega) only [go_sem,Φa,hP,h10_12,h10_2,h10_3,h10_4,h10_7,h10_8,hops]
   refine ⟨rfl,rfl,0,_,_,_,rfl,Nat.le_refl 23,.inr (Nat.zero_le 0),?_⟩
   try refine stI ?_
   try simp (dsimp:=false)(disch:=omega) only [go_sem,Φa,hP,h10_12,h10_2,h10_3,h10_4,h10_7,h10_8,hops]
   rw [put_lent rfl]
   refine hK28 _ _ ?_
   try clear hK28 K28
   refine SX.live [2,3,4,7,8,12,13] (fun T11 hT11=>?_)
   simp only [forall_mem_cons',forall_mem_nil',go_sem,Φa,hP,h10_12,h10_2,h10_3,h10_4,h10_7,h10_8] at hT11
   obtain ⟨h11_2,h11_3,h11_4,h11_7,h11_8,h11_12,h11_13⟩ := hT11
   clear h10_12 h10_2 h10_3 h10_4 h10_7 h10_8 T10
   refine SX.seq_k fun K29 hK29=>?_
   refine SX.region_d [some 63,some 64,some 14,none] rfl (fun ops hops=>?_)
   unfold Dsts at hops
   simp (dsimp:=false)(disch:=omega) only [go_sem,Φa,hP,h11_2,h11_3,h11_4,h11_7,h11_8,h11_12,h11_13,hops]
   (iterate 23 refine ⟨_,Cell.at 0 rfl rfl,?_⟩)
   try refine stI ?_
   try simp (dsimp:=false)(disch:=omega) only [go_sem,Φa,hP,h11_2,h11_3,h11_4,h11_7,h11_8,h11_12,h11_13,hops]
   refine SCall.mono (Tick_spec (g := G4) hP hokz (lentSlW 1 rfl) (lentSlB 2 rfl) (lentSlB 3 rfl) (by omega) (by omega) (by omega)) ?_
   rintro v_ L_ ⟨sv1,pv1,mv1,t1,t2,t3,rfl,rfl,hr1⟩
   obtain ⟨A1st,c1st,rfl,hc1st⟩ := rowShape hr1.st
   obtain ⟨A1pg,c1pg,rfl,hc1pg⟩ := rowShape hr1.pg
   obtain ⟨A1mm,c1mm,rfl,hc1mm⟩ := rowShape hr1.mm
   try refine stI ?_
   try simp (dsimp:=false)(disch:=omega) only [go_sem,Φa,hP,h11_2,h11_3,h11_4,h11_7,h11_8,h11_12,h11_13,hops]
   intro b14
   try refine stI ?_
   try simp (dsimp:=false)(disch:=omega) only [go_sem,Φa,hP,h11_2,h11_3,h11_4,h11_7,h11_8,h11_12,h11_13,hops]
   refine ⟨rfl,rfl,0,_,_,_,rfl,Nat.le_refl 23,.inr (Nat.zero_le 0),?_⟩
   try refine stI ?_
   try simp (dsimp:=false)(disch:=omega) only [go_sem,Φa,hP,h11_2,h11_3,h11_4,h11_7,h11_8,h11_12,h11_13,hops]
   rw [put_g rfl]
   refine hK29 _ _ ?_
   try clear hK29 K29
   refine SX.seq_k fun K30 hK30=>?_
   refine SX.region_d [some 65,some 66,some 67,some 15] rfl (fun ops hops=>?_)
   unfold Dsts at hops
   simp (dsimp:=false)(disch:=omega) only [go_sem,Φa,hP,h11_2,h11_3,h11_4,h11_7,h11_8,h11_12,h11_13,hops]
   (iterate 23 refine ⟨_,Cell.at 4 rfl rfl,?_⟩)
   try refine stI ?_
   try simp (dsimp:=false)(disch:=omega) only [go_sem,Φa,hP,h11_2,h11_3,h11_4,h11_7,h11_8,h11_12,h11_13,hops]
   ((iterate 23 refine ⟨_,Cell.at 9 rfl rfl,?_⟩); rw [lit_g (g := G4)])
   try refine stI ?_
   try simp (dsimp:=false)(disch:=omega) only [go_sem,Φa,hP,h11_2,h11_3,h11_4,h11_7,h11_8,h11_12,h11_13,hops]
   refine SCall.mono (keptGame_spec (g := G4) (i1 := 5) (i2 := 6) (i3 := 7) hP rfl rfl rfl (by decide) (by decide) (by decide) (SlI.cons _ (SlI.cons _ (SlI.cons _ (SlI.cons _ (SlI.cons _ (SlI.cons _ (SlI.cons _ (SlI.cons _ (SlI.cons _ (SlI.cons _ hH4.st)))))))))) (SlI.cons _ (SlI.cons _ (SlI.cons _ (SlI.cons _ (SlI.cons _ (SlI.cons _ (SlI.cons _ (SlI.cons _ (SlI.cons _ (SlI.cons _ hH4.pg)))))))))) (SlI.cons _ (SlI.cons _ (SlI.cons _ (SlI.cons _ (SlI.cons _ (SlI.cons _ (SlI.cons _ (SlI.cons _ (SlI.cons _ (SlI.cons _ hH4.mm)))))))))) (by omega) (by omega) (by omega)) ?_
   rintro v_ L_ ⟨hv_,hL_⟩
   rw [hv_,hL_]
   clear hv_ hL_ v_ L_
   try refine stI ?_
   try simp (dsimp:=false)(disch:=omega) only [go_sem,Φa,hP,h11_2,h11_3,h11_4,h11_7,h11_8,h11_12,h11_13,hops]
   refine hK30 _ _ ?_
   try clear hK30 K30
   refine SX.seq_k fun K31 hK31=>?_
   refine SX.region_d [some 68,some 69,some 16,none] rfl (fun ops hops=>?_)
   unfold Dsts at hops
   simp (dsimp:=false)(disch:=omega) only [go_sem,Φa,hP,h11_2,h11_3,h11_4,h11_7,h11_8,h11_12,h11_13,hops]
   ((iterate 23 refine ⟨_,Cell.at 9 rfl rfl,?_⟩); rw [lit_g (g := G4)])
   try refine stI ?_
   try simp (dsimp:=false)(disch:=omega) only [go_sem,Φa,hP,h11_2,h11_3,h11_4,h11_7,h11_8,h11_12,h11_13,hops]
   refine SCall.mono (refTick_spec (g := G4) hP hokz (SlI.cons _ (SlI.cons _ (SlI.cons _ (SlI.cons _ (SlI.cons _ (SlI.cons _ (SlI.cons _ (SlI.cons _ (SlI.cons _ (SlI.cons _ hH4.st)))))))))) (SlI.cons _ (SlI.cons _ (SlI.cons _ (SlI.cons _ (SlI.cons _ (SlI.cons _ (SlI.cons _ (SlI.cons _ (SlI.cons _ (SlI.cons _ hH4.pg)))))))))) (SlI.cons _ (SlI.cons _ (SlI.cons _ (SlI.cons _ (SlI.cons _ (SlI.cons _ (SlI.cons _ (SlI.cons _ (SlI.cons _ (SlI.cons _ hH4.mm)))))))))) (by omega) (by omega) (by omega)) ?_
   rintro v_ L_ ⟨sv2,pv2,mv2,m1,m2,m3,rfl,rfl,hr2⟩
   obtain ⟨A2st,c2st,rfl,hc2st⟩ := rowShape hr2.st
   obtain ⟨A2pg,c2pg,rfl,hc2pg⟩ := rowShape hr2.pg
   obtain ⟨A2mm,c2mm,rfl,hc2mm⟩ := rowShape hr2.mm
   try refine stI ?_
   try simp (dsimp:=false)(disch:=omega) only [go_sem,Φa,hP,h11_2,h11_3,h11_4,h11_7,h11_8,h11_12,h11_13,hops]
   intro b16
   try refine stI ?_
   try simp (dsimp:=false)(disch:=omega) only [go_sem,Φa,hP,h11_2,h11_3,h11_4,h11_7,h11_8,h11_12,h11_13,hops]
   refine ⟨rfl,rfl,0,_,_,_,rfl,Nat.le_refl 23,.inr (Nat.zero_le 0),?_⟩
   try refine stI ?_
   try simp (dsimp:=false)(disch:=omega) only [go_sem,Φa,hP,h11_2,h11_3,h11_4,h11_7,h11_8,h11_12,h11_13,hops]
   rw [put_g rfl]
   refine hK31 _ _ ?_
   try clear hK31 K31
   refine SX.live [2,3,4,7,8,12,14,15,16] (fun T12 hT12=>?_)
   simp only [forall_mem_cons',forall_mem_nil',go_sem,Φa,hP,h11_2,h11_3,h11_4,h11_7,h11_8,h11_12,h11_13] at hT12
   obtain ⟨h12_2,h12_3,h12_4,h12_7,h12_8,h12_12,h12_14,h12_15,h12_16⟩ := hT12
   clear h11_2 h11_3 h11_4 h11_7 h11_8 h11_12 h11_13 T11
   refine SX.seq_k fun K32 hK32=>?_
   refine SX.region_d [some 70,some 71,some 72,some 17] rfl (fun ops hops=>?_)
   unfold Dsts at hops
   simp (dsimp:=false)(disch:=omega) only [go_sem,Φa,hP,h12_2,h12_3,h12_4,h12_7,h12_8,h12_12,h12_14,h12_15,h12_16,hops]
   ((iterate 23 refine ⟨_,Cell.at 4 rfl rfl,?_⟩); rw [lit_g (g := (tickG G4))])
   try refine stI ?_
   try simp (dsimp:=false)(disch:=omega) only [go_sem,Φa,hP,h12_2,h12_3,h12_4,h12_7,h12_8,h12_12,h12_14,h12_15,h12_16,hops]
   ((iterate 23 refine ⟨_,Cell.at 0 rfl rfl,?_⟩); rw [lit_g (g := (tickG G4))])
   try refine stI ?_
   try simp (dsimp:=false)(disch:=omega) only [go_sem,Φa,hP,h12_2,h12_3,h12_4,h12_7,h12_8,h12_12,h12_14,h12_15,h12_16,hops]
   refine SCall.mono (Same_spec (a := tickG G4) (b := tickG G4) hP htk4 htk4 (RowI.sl hr1.st (i := 5) rfl) (RowI.sl hr1.pg (i := 6) rfl) (RowI.sl hr1.mm (i := 7) rfl) (RowI.sl hr2.st (i := 1) rfl) (RowI.sl hr2.pg (i := 2) rfl) (RowI.sl hr2.mm (i := 3) rfl) (by omega) (by omega)) ?_
   rintro v_ L_ ⟨rfl,rfl⟩
   rw [sameB_self]
   try refine stI ?_
   try simp (dsimp:=false)(disch:=omega) only [go_sem,Φa,hP,h12_2,h12_3,h12_4,h12_7,h12_8,h12_12,h12_14,h12_15,h12_16,hops]
   refine hK32 _ _ ?_
   try clear hK32 K32
   refine SX.seq_k fun K33 hK33=>?_
   refine SX.region_d [some 73,some 74,some 18] rfl (fun ops hops=>?_)
   unfold Dsts at hops
   simp (dsimp:=false)(disch:=omega) only [go_sem,Φa,hP,h12_2,h12_3,h12_4,h12_7,h12_8,h12_12,h12_14,h12_15,h12_16,hops]
   ((iterate 23 refine ⟨_,Cell.at 4 rfl rfl,?_⟩); rw [lit_g (g := (tickG G4))])
   try refine stI ?_
   try simp (dsimp:=false)(disch:=omega) only [go_sem,Φa,hP,h12_2,h12_3,h12_4,h12_7,h12_8,h12_12,h12_14,h12_15,h12_16,hops]
   refine SCall.mono (SCall.of_less lessRows4 (spread_spec (g := tickG G4) (L := _ :: _ :: _ :: _ :: _ :: _) hP hr1 (by omega))) ?_
   rintro v_ L_ ⟨rfl,rfl⟩
   try refine stI ?_
   try simp (dsimp:=false)(disch:=omega) only [go_sem,Φa,hP,h12_2,h12_3,h12_4,h12_7,h12_8,h12_12,h12_14,h12_15,h12_16,hops]
   refine hK33 _ _ ?_
   try clear hK33 K33
   refine SX.seq_k fun K34 hK34=>?_
   refine SX.seq_k fun K35 hK35=>?_
   refine SX.region_d [some 75,some 76,some 77,some 78,some 79,some 80,some 81,some 82,some 83,some 84] rfl (fun ops hops=>?_)
   unfold Dsts at hops
   simp (dsimp:=false)(disch:=omega) only [go_sem,Φa,hP,h12_2,h12_3,h12_4,h12_7,h12_8,h12_12,h12_14,h12_15,h12_16,hops]
   refine hK35 _ _ ?_
   try clear hK35 K35
   refine SX.live [2,3,4,7,8,12,16,84] (fun T13 hT13=>?_)
   simp only [forall_mem_cons',forall_mem_nil',go_sem,Φa,hP,h12_2,h12_3,h12_4,h12_7,h12_8,h12_12,h12_14,h12_15,h12_16] at hT13
   obtain ⟨h13_2,h13_3,h13_4,h13_7,h13_8,h13_12,h13_16,h13_84⟩ := hT13
   clear h12_2 h12_3 h12_4 h12_7 h12_8 h12_12 h12_14 h12_15 h12_16 T12
   refine SX.cond_k fun X36 Y36 hX36 hY36=>?_
   simp (dsimp:=false)(disch:=omega) only [go_sem,Φa,hP,h13_2,h13_3,h13_4,h13_7,h13_8,h13_12,h13_16,h13_84,condVC]
   refine hY36 ?_
   clear hX36 hY36 X36 Y36
   refine SX.skip ?_
   try simp only [andThen_normal,andThen_ret,andThen_exit,inBlk_normal,inBlk_ret,inBlk_exit,Nat.reduceEqDiff,if_true,if_false,↓reduceIte]
   refine hK34 _ _ ?_
   try clear hK34 K34
   refine SX.seq_k fun K37 hK37=>?_
   refine SX.region_d [some 85,some 86,some 87] rfl (fun ops hops=>?_)
   unfold Dsts at hops
   simp (dsimp:=false)(disch:=omega) only [go_sem,Φa,hP,h13_2,h13_3,h13_4,h13_7,h13_8,h13_12,h13_16,h13_84,hops]
   ((iterate 23 refine ⟨_,Cell.at 10 rfl rfl,?_⟩); rw [lit_g (g := G4)])
   try refine stI ?_
   try simp (dsimp:=false)(disch:=omega) only [go_sem,Φa,hP,h13_2,h13_3,h13_4,h13_7,h13_8,h13_12,h13_16,h13_84,hops]
   refine SCall.mono (refCheck_spec (g := G4) hP (SlI.cons _ (SlI.cons _ (SlI.cons _ (SlI.cons _ (SlI.cons _ (SlI.cons _ (SlI.cons _ (SlI.cons _ (SlI.cons _ (SlI.cons _ (SlI.cons _ hH4.st))))))))))) (SlI.cons _ (SlI.cons _ (SlI.cons _ (SlI.cons _ (SlI.cons _ (SlI.cons _ (SlI.cons _ (SlI.cons _ (SlI.cons _ (SlI.cons _ (SlI.cons _ hH4.pg))))))))))) (SlI.cons _ (SlI.cons _ (SlI.cons _ (SlI.cons _ (SlI.cons _ (SlI.cons _ (SlI.cons _ (SlI.cons _ (SlI.cons _ (SlI.cons _ (SlI.cons _ hH4.mm))))))))))) (by omega) (by omega) (by omega)) ?_
   rintro v_ L_ ⟨hv_,hL_⟩
   rw [hv_,hL_]
   clear hv_ hL_ v_ L_
   try refine stI ?_
   try simp (dsimp:=false)(disch:=omega) only [go_sem,Φa,hP,h13_2,h13_3,h13_4,h13_7,h13_8,h13_12,h13_16,h13_84,hops]
   refine hK37 _ _ ?_
   try clear hK37 K37
   refine SX.cond_k fun X38 Y38 hX38 hY38=>?_
   simp (dsimp:=false)(disch:=omega) only [go_sem,Φa,hP,h13_2,h13_3,h13_4,h13_7,h13_8,h13_12,h13_16,h13_84,condVC]
   refine ⟨fun hc87=>hX38 ?_,fun hc87=>hY38 ?_⟩
   ·clear hX38 hY38 X38 Y38
    refine SX.region_d [some 88,none] rfl (fun ops hops=>?_)
    unfold Dsts at hops
    simp (dsimp:=false)(disch:=omega) only [go_sem,Φa,hP,h13_2,h13_3,h13_4,h13_7,h13_8,h13_12,h13_16,h13_84,hops]
    ((iterate 23 refine ⟨_,Cell.at 0 rfl rfl,?_⟩); rw [lit_g (g := (tickG G4))])
    try refine stI ?_
    try simp (dsimp:=false)(disch:=omega) only [go_sem,Φa,hP,h13_2,h13_3,h13_4,h13_7,h13_8,h13_12,h13_16,h13_84,hops]
    refine ⟨rfl,rfl,10,_,_,_,rfl,Nat.le_refl 23,.inr (Nat.zero_le 0),?_⟩
    try refine stI ?_
    try simp (dsimp:=false)(disch:=omega) only [go_sem,Φa,hP,h13_2,h13_3,h13_4,h13_7,h13_8,h13_12,h13_16,h13_84,hops]
    rw [put_g rfl]
    refine hK27 _ _ ?_
    try clear hK27 K27
    refine SX.region_d [some 59,some 60,some 12] rfl (fun ops hops=>?_)
    unfold Dsts at hops
    simp (dsimp:=false)(disch:=omega) only [go_sem,Φa,hP,h13_2,h13_3,h13_4,h13_7,h13_8,h13_12,h13_16,h13_84,hops]
    repeat' ((first | refine And.intro (by omega) ?_ | fail); try refine stI ?_; try simp (dsimp:=false)(disch:=omega) only [go_sem,Φa,hP,h13_2,h13_3,h13_4,h13_7,h13_8,h13_12,h13_16,h13_84,hops])
    refine hK23 (k + 1,tickG G4,(.slice A2st (tickG G4).st.length c2st),(.slice A2pg (tickG G4).pg.length c2pg),(.slice A2mm (tickG G4).mm.length c2mm),m1,m2,m3) _ (some (b1,.cells (f.cells (.slice Af f.bs.length cf)).toArray 30 (0,0)) :: some (b0,.cells (GM.cells (tickG G4) (.slice A2st (tickG G4).st.length c2st) (.slice A2pg (tickG G4).pg.length c2pg) (.slice A2mm (tickG G4).mm.length c2mm)).toArray 27 (0,0)) :: m1 :: m2 :: m3 :: L) _ (by exact lessTick) ?_ ?_
    ·try dsimp only
     refine ⟨?_,?_,?_,?_,?_,?_,?_,?_⟩
     ·simp (dsimp:=false)(disch:=omega) only [go_sem,Φa,hP,h13_2,h13_3,h13_4,h13_7,h13_8,h13_12,h13_16,h13_84]
      first | done | rfl | skip
     ·simp (dsimp:=false)(disch:=omega) only [go_sem,Φa,hP,h13_2,h13_3,h13_4,h13_7,h13_8,h13_12,h13_16,h13_84]
     ·simp (dsimp:=false)(disch:=omega) only [go_sem,Φa,hP,h13_2,h13_3,h13_4,h13_7,h13_8,h13_12,h13_16,h13_84]
     ·simp (dsimp:=false)(disch:=omega) only [go_sem,Φa,hP,h13_2,h13_3,h13_4,h13_7,h13_8,h13_12,h13_16,h13_84]
     ·simp (dsimp:=false)(disch:=omega) only [go_sem,Φa,hP,h13_2,h13_3,h13_4,h13_7,h13_8,h13_12,h13_16,h13_84]
     ·simp (dsimp:=false)(disch:=omega) only [go_sem,Φa,hP,h13_2,h13_3,h13_4,h13_7,h13_8,h13_12,h13_16,h13_84]
     ·rfl
     exact ⟨by omega,⟨htk4,by omega,by omega,by omega⟩,⟨RowI.sl (i := 0) hr2.st rfl,RowI.sl (i := 1) hr2.pg rfl,RowI.sl (i := 2) hr2.mm rfl⟩⟩
    (try dsimp only); omega
   clear hX38 hY38 X38 Y38
   refine SX.skip ?_
   try simp only [andThen_normal,andThen_ret,andThen_exit,inBlk_normal,inBlk_ret,inBlk_exit,Nat.reduceEqDiff,if_true,if_false,↓reduceIte]
   refine hK27 _ _ ?_
   try clear hK27 K27
   refine SX.region_d [some 59,some 60,some 12] rfl (fun ops hops=>?_)
   unfold Dsts at hops
   simp (dsimp:=false)(disch:=omega) only [go_sem,Φa,hP,h13_2,h13_3,h13_4,h13_7,h13_8,h13_12,h13_16,h13_84,hops]
   repeat' ((first | refine And.intro (by omega) ?_ | fail); try refine stI ?_; try simp (dsimp:=false)(disch:=omega) only [go_sem,Φa,hP,h13_2,h13_3,h13_4,h13_7,h13_8,h13_12,h13_16,h13_84,hops])
   refine hK23 (k + 1,G4,.slice Asz G4.st.length csz,.slice Apz G4.pg.length cpz,.slice Amz G4.mm.length cmz,r1,r2,r3) _ (some (b1,.cells (f.cells (.slice Af f.bs.length cf)).toArray 30 (0,0)) :: some (b0,.cells (GM.cells G4 (.slice Asz G4.st.length csz) (.slice Apz G4.pg.length cpz) (.slice Amz G4.mm.length cmz)).toArray 27 (0,0)) :: r1 :: r2 :: r3 :: L) _ (by exact Less.sublist (.cons _ (.cons _ (.cons _ (.cons _ (.cons _ (.cons _ (.cons _ (.cons _ (.cons _ (List.Sublist.refl _))))))))))) ?_ ?_
   ·try dsimp only
    refine ⟨?_,?_,?_,?_,?_,?_,?_,?_⟩
    ·simp (dsimp:=false)(disch:=omega) only [go_sem,Φa,hP,h13_2,h13_3,h13_4,h13_7,h13_8,h13_12,h13_16,h13_84]
     first | done | rfl | skip
    ·simp (dsimp:=false)(disch:=omega) only [go_sem,Φa,hP,h13_2,h13_3,h13_4,h13_7,h13_8,h13_12,h13_16,h13_84]
    ·simp (dsimp:=false)(disch:=omega) only [go_sem,Φa,hP,h13_2,h13_3,h13_4,h13_7,h13_8,h13_12,h13_16,h13_84]
    ·simp (dsimp:=false)(disch:=omega) only [go_sem,Φa,hP,h13_2,h13_3,h13_4,h13_7,h13_8,h13_12,h13_16,h13_84]
    ·simp (dsimp:=false)(disch:=omega) only [go_sem,Φa,hP,h13_2,h13_3,h13_4,h13_7,h13_8,h13_12,h13_16,h13_84]
    ·simp (dsimp:=false)(disch:=omega) only [go_sem,Φa,hP,h13_2,h13_3,h13_4,h13_7,h13_8,h13_12,h13_16,h13_84]
    ·rfl
    exact ⟨by omega,hG4,hH4⟩
   (try dsimp only); omega
  clear hX26 hY26 X26 Y26
  refine SX.exit ?_
  try simp only [andThen_normal,andThen_ret,andThen_exit,inBlk_normal,inBlk_ret,inBlk_exit,Nat.reduceEqDiff,if_true,if_false,↓reduceIte]
  refine hK14 _ _ ?_
  try clear hK14 K14
  refine SX.region_d [some 32,some 33,some 8] rfl (fun ops hops=>?_)
  unfold Dsts at hops
  simp (dsimp:=false)(disch:=omega) only [go_sem,Φa,hP,h10_12,h10_2,h10_3,h10_4,h10_7,h10_8,hops]
  repeat' ((first | refine And.intro (by omega) ?_ | fail); try refine stI ?_; try simp (dsimp:=false)(disch:=omega) only [go_sem,Φa,hP,h10_12,h10_2,h10_3,h10_4,h10_7,h10_8,hops])
  refine hK10 (i + 1,G4,y1,y2,y3,r1,r2,r3) _ (some (b1,.cells (f.cells (.slice Af f.bs.length cf)).toArray 30 (0,0)) :: some (b0,.cells (GM.cells G4 y1 y2 y3).toArray 27 (0,0)) :: r1 :: r2 :: r3 :: L) _ (by exact Less.refl _) ?_ ?_
  ·try dsimp only
   refine ⟨?_,?_,?_,?_,?_,?_,?_⟩
   ·simp (dsimp:=false)(disch:=omega) only [go_sem,Φa,hP,h10_12,h10_2,h10_3,h10_4,h10_7,h10_8]
    first | done | rfl | skip
   ·simp (dsimp:=false)(disch:=omega) only [go_sem,Φa,hP,h10_12,h10_2,h10_3,h10_4,h10_7,h10_8]
   ·simp (dsimp:=false)(disch:=omega) only [go_sem,Φa,hP,h10_12,h10_2,h10_3,h10_4,h10_7,h10_8]
   ·simp (dsimp:=false)(disch:=omega) only [go_sem,Φa,hP,h10_12,h10_2,h10_3,h10_4,h10_7,h10_8]
   ·simp (dsimp:=false)(disch:=omega) only [go_sem,Φa,hP,h10_12,h10_2,h10_3,h10_4,h10_7,h10_8]
   ·rfl
   exact ⟨by omega,hG4,hH4⟩
  (try dsimp only); omega
 clear hX13 hY13 X13 Y13
 refine SX.exit ?_
 try simp only [andThen_normal,andThen_ret,andThen_exit,inBlk_normal,inBlk_ret,inBlk_exit,Nat.reduceEqDiff,if_true,if_false,↓reduceIte]
 refine hK8 _ _ ?_
 try clear hK8 K8
 refine SX.seq_k fun K39 hK39=>?_
 refine SX.region_d [some 89,some 6] rfl (fun ops hops=>?_)
 unfold Dsts at hops
 simp (dsimp:=false)(disch:=omega) only [go_sem,Φa,hP,h4_8,h4_2,h4_3,h4_4,h4_7,hops]
 refine hK39 _ _ ?_
 try clear hK39 K39
 refine SX.ret ?_
 simp only [andThen_normal,andThen_ret,andThen_exit,inBlk_normal,inBlk_ret,inBlk_exit,Nat.reduceEqDiff,if_true,if_false,↓reduceIte,retQ_ret]
 try simp only [res0,res1,res2,res3,stK_e,go_sem,Φa,hP,h4_8,h4_2,h4_3,h4_4,h4_7]
 exact ⟨_,_,Less.tail [_,_,_,_,_] _,rfl,rfl,rfl⟩

end Go.Proofs.YtgioegdjeodpiaaGreat
namespace Go.Proofs.YtgioegdjeodpiaaGreat
open Go.ChangeShapes Go.WideShapes Go.ChangeAt Go.RowKit Go.SX
theorem own : ownKnob Tryz.prog.godebug = none := by kernel_rfl
theorem laidOut : laidOutB Tryz.prog = true := by kernel_rfl
theorem cells5 : Tryz.prog.cellsOf 5 = 1 := by kernel_rfl
theorem cells23 : Tryz.prog.cellsOf 23 = 1 := by kernel_rfl
theorem cells27 : Tryz.prog.cellsOf 27 = 23 := by kernel_rfl
theorem cells30 : Tryz.prog.cellsOf 30 = 18 := by kernel_rfl
theorem flat22 : flatK Tryz.prog 9 22 = some (List.replicate 16 (.i .u8)) := by kernel_rfl
theorem flat28 : flatK Tryz.prog 9 28 = some (List.replicate 16 (.i .u16)) := by kernel_rfl
theorem vals_n {k : IntKind} : ∀ {n : Nat} {cs : List Value},okVs (List.replicate n (.i k)) cs = true → ∃ l : List Int,l.length = n ∧ cs = ints k l ∧ ∀ x ∈ l,(Lit.int k x).wf = true
 | 0,cs,h=>⟨[],rfl,by rw [okVs_nil h]; rfl,fun x hx=>by simp at hx⟩
 | n + 1,cs,h=>by
  obtain ⟨x,vs,rfl,hw,h'⟩ := okVs_i (show okVs (.i k :: List.replicate n (.i k)) cs = true from h)
  obtain ⟨l,hl,rfl,hl2⟩ := vals_n h'
  exact ⟨x :: l,by rw [List.length_cons,hl],rfl,fun y hy=>by
   rcases List.mem_cons.1 hy with rfl | hy
   ·exact hw
   exact hl2 y hy⟩
theorem bu8 {n : Int} (h : (Lit.int .u8 n).wf = true) : 0 ≤ n ∧ n ≤ 255 := bounds_u8 h
theorem bu16 {n : Int} (h : (Lit.int .u16 n).wf = true) : 0 ≤ n ∧ n ≤ 65535 := by simpa [wf_u16] using h
theorem bi64 {n : Int} (h : (Lit.int .i64 n).wf = true) : -9223372036854775808 ≤ n ∧ n ≤ 9223372036854775807 := by simpa [wf_i64] using h
theorem open_int1 {H : Type} {enc : TypeId × Value → H} {P : Program} {t : TypeId} {k : IntKind} {W : World} {v : Value} {n : Nat} {y : DataW H × List MemPlace} (hu : P.underlying t = some (.int k)) (hf : DataW.trod enc P W 0 (fun _=>true) true n t [v] = some y) : ∃ x : Int,v = .int k x ∧ (Lit.int k x).wf = true := by
 cases n with
 | zero=>simp [DataW.trod] at hf
 | succ n =>
  unfold DataW.trod at hf
  rw [hu] at hf
  cases v with
  | int k' x =>
   simp only at hf
   split at hf
   ·rename_i h; exact ⟨x,by rw [h.1],by rw [← h.1]; first | exact h.2 | (rw [h.1]; exact h.2)⟩
   ·cases hf
  | _=>simp at hf
theorem cells_eq {g : GM} {sv pv mv : Value} (hV : g.V.length = 16) : g.cells sv pv mv = ints .u8 g.V ++ [.int .u16 g.I,.int .u16 g.PC,sv,.int .u8 g.dl,.int .u8 g.sd,pv,mv] := by
 unfold GM.cells
 conv=>rhs; rw [list16 hV]
 rfl
theorem fcells_eq {f : Fnt} {fv : Value} (hV : f.at_.length = 16) : f.cells fv = ints .u16 f.at_ ++ [.int .u16 f.from_,fv] := by
 unfold Fnt.cells
 conv=>rhs; rw [list16 hV]
 rfl
section
variable {H : Type} {enc : TypeId × Value → H} {W : World} {base : Nat} {v : Value} {d : DataW H} {p : List MemPlace}
def GameIn (W : World) (g : GM) (sv pv mv : Value) : Prop := OkG g ∧ SlI .u16 (Cell ⟨Tryz.prog,W,[]⟩ []) sv g.st ∧ SlI .u8 (Cell ⟨Tryz.prog,W,[]⟩ []) pv g.pg ∧ SlI .u8 (Cell ⟨Tryz.prog,W,[]⟩ []) mv g.mm ∧ g.st.length ≤ 9223372036854775807 ∧ g.pg.length ≤ 9223372036854775807 ∧ g.mm.length ≤ 9223372036854775807
def FontIn (W : World) (f : Fnt) (fv : Value) : Prop := OkF f ∧ SlI .u8 (Cell ⟨Tryz.prog,W,[]⟩ []) fv f.bs ∧ f.bs.length ≤ 9223372036854775807
set_option maxRecDepth 100000 in
theorem open_gameV {n : Nat} {cs : List Value} {y : DataW H × List MemPlace} (hy : DataW.trod enc Tryz.prog W 0 (fun _=>true) true n 27 cs = some y) :
  ∃ (g : GM) (sv pv mv : Value),cs = g.cells sv pv mv ∧ GameIn W g sv pv mv := by
 obtain ⟨xs,m,_,_,hcs,hxs,hf⟩ := DataW.trod_struct Tryz.underlying27 hy
 rw [cells27] at hcs
 match cs,hcs with
 | [c0,c1,c2,c3,c4,c5,c6,c7,c8,c9,c10,c11,c12,c13,c14,c15,c16,c17,c18,c19,c20,c21,c22],_ =>
  have h0 : DataW.trod enc Tryz.prog W 0 (fun _=>true) true m 22 [c0,c1,c2,c3,c4,c5,c6,c7,c8,c9,c10,c11,c12,c13,c14,c15] = xs[0]? := hf 0 _ rfl
  have h1 : DataW.trod enc Tryz.prog W 0 (fun _=>true) true m 23 [c16] = xs[1]? := hf 1 _ rfl
  have h2 : DataW.trod enc Tryz.prog W 0 (fun _=>true) true m 23 [c17] = xs[2]? := hf 2 _ rfl
  have h3 : DataW.trod enc Tryz.prog W 0 (fun _=>true) true m 24 [c18] = xs[3]? := hf 3 _ rfl
  have h4 : DataW.trod enc Tryz.prog W 0 (fun _=>true) true m 5 [c19] = xs[4]? := hf 4 _ rfl
  have h5 : DataW.trod enc Tryz.prog W 0 (fun _=>true) true m 5 [c20] = xs[5]? := hf 5 _ rfl
  have h6 : DataW.trod enc Tryz.prog W 0 (fun _=>true) true m 25 [c21] = xs[6]? := hf 6 _ rfl
  have h7 : DataW.trod enc Tryz.prog W 0 (fun _=>true) true m 25 [c22] = xs[7]? := hf 7 _ rfl
  rw [List.getElem?_eq_getElem (by rw [hxs]; decide)] at h0 h1 h2 h3 h4 h5 h6 h7
  obtain ⟨V,hV,eV,wV⟩ := vals_n (trod_flat 9 22 _ _ _ _ flat22 h0)
  obtain ⟨I,rfl,wI⟩ := open_int1 Tryz.underlying23 h1
  obtain ⟨PC,rfl,wPC⟩ := open_int1 Tryz.underlying23 h2
  obtain ⟨st,hst,wst,lst⟩ := open_slv (v := c18) Tryz.underlying24 Tryz.underlying23 cells23 h3
  obtain ⟨dl,rfl,wdl⟩ := open_int1 Tryz.underlying5 h4
  obtain ⟨sd,rfl,wsd⟩ := open_int1 Tryz.underlying5 h5
  obtain ⟨pg,hpg,wpg,lpg⟩ := open_slv (v := c21) Tryz.underlying25 Tryz.underlying5 cells5 h6
  obtain ⟨mm,hmm,wmm,lmm⟩ := open_slv (v := c22) Tryz.underlying25 Tryz.underlying5 cells5 h7
  refine ⟨⟨V,I,PC,st,dl,sd,pg,mm⟩,c18,c21,c22,?_,⟨hV,fun x hx=>bu8 (wV x hx),bu16 wI,bu16 wPC,fun x hx=>bu16 (wst x hx),bu8 wdl,bu8 wsd,fun x hx=>bu8 (wpg x hx),fun x hx=>bu8 (wmm x hx)⟩,hst,hpg,hmm,lst,lpg,lmm⟩
  rw [cells_eq hV,← eV]
  rfl
set_option maxRecDepth 100000 in
theorem open_fontV {n : Nat} {cs : List Value} {y : DataW H × List MemPlace} (hy : DataW.trod enc Tryz.prog W 0 (fun _=>true) true n 30 cs = some y) :
  ∃ (f : Fnt) (fv : Value),cs = f.cells fv ∧ FontIn W f fv := by
 obtain ⟨xs,m,_,_,hcs,hxs,hf⟩ := DataW.trod_struct Tryz.underlying30 hy
 rw [cells30] at hcs
 match cs,hcs with
 | [c0,c1,c2,c3,c4,c5,c6,c7,c8,c9,c10,c11,c12,c13,c14,c15,c16,c17],_ =>
  have h0 : DataW.trod enc Tryz.prog W 0 (fun _=>true) true m 28 [c0,c1,c2,c3,c4,c5,c6,c7,c8,c9,c10,c11,c12,c13,c14,c15] = xs[0]? := hf 0 _ rfl
  have h1 : DataW.trod enc Tryz.prog W 0 (fun _=>true) true m 23 [c16] = xs[1]? := hf 1 _ rfl
  have h2 : DataW.trod enc Tryz.prog W 0 (fun _=>true) true m 25 [c17] = xs[2]? := hf 2 _ rfl
  rw [List.getElem?_eq_getElem (by rw [hxs]; decide)] at h0 h1 h2
  obtain ⟨V,hV,eV,wV⟩ := vals_n (trod_flat 9 28 _ _ _ _ flat28 h0)
  obtain ⟨fr,rfl,wfr⟩ := open_int1 Tryz.underlying23 h1
  obtain ⟨bs,hbs,wbs,lbs⟩ := open_slv (v := c17) Tryz.underlying25 Tryz.underlying5 cells5 h2
  refine ⟨⟨V,fr,bs⟩,c17,?_,⟨hV,fun x hx=>bu16 (wV x hx),bu16 wfr,fun x hx=>bu8 (wbs x hx)⟩,hbs,lbs⟩
  rw [fcells_eq hV,← eV]
  rfl
set_option maxRecDepth 100000 in
theorem open_game (hv : Value.okWide Tryz.prog W .any base 27 v) (h : DataW.Trod enc Tryz.prog W 0 (fun _=>true) true 27 v d p) :
  ∃ (g : GM) (sv pv mv : Value),v = .agg (g.cells sv pv mv).toArray ∧ GameIn W g sv pv mv := by
 obtain ⟨cs,rfl,_⟩ := okWide_struct Tryz.underlying27 hv
 obtain ⟨fuel,hf⟩ := h
 obtain ⟨g,sv,pv,mv,e,hg⟩ := open_gameV hf
 exact ⟨g,sv,pv,mv,by rw [← e]; rfl,hg⟩
set_option maxRecDepth 100000 in
theorem open_font (hv : Value.okWide Tryz.prog W .any base 30 v) (h : DataW.Trod enc Tryz.prog W 0 (fun _=>true) true 30 v d p) :
  ∃ (f : Fnt) (fv : Value),v = .agg (f.cells fv).toArray ∧ FontIn W f fv := by
 obtain ⟨cs,rfl,_⟩ := okWide_struct Tryz.underlying30 hv
 obtain ⟨fuel,hf⟩ := h
 obtain ⟨f,fv,e,hg⟩ := open_fontV hf
 exact ⟨f,fv,by rw [← e]; rfl,hg⟩
theorem cells40p : Tryz.prog.cellsOf 40 = 4 := by kernel_rfl
theorem flat40p : flatK Tryz.prog 9 40 = some [.i .u8,.i .u16,.i .i64,.i .i64] := by kernel_rfl
theorem play_of {r : List Value} (h : okVs [.i .u8,.i .u16,.i .i64,.i .i64] r = true) : ∃ p : Play,r = playC p ∧ OkD p.1 ∧ -9223372036854775808 ≤ p.2 ∧ p.2 ≤ 9223372036854775807 := by
 obtain ⟨a,l0,rfl,wa,h⟩ := okVs_i h
 obtain ⟨b,l1,rfl,wb,h⟩ := okVs_i h
 obtain ⟨c,l2,rfl,wc,h⟩ := okVs_i h
 obtain ⟨e,l3,rfl,we,h⟩ := okVs_i h
 obtain rfl := okVs_nil h
 exact ⟨(⟨a,b,c⟩,e),rfl,⟨bu8 wa,bu16 wb⟩,bi64 we⟩
theorem plays_of : ∀ {xs : List (List Value)},(∀ r ∈ xs,okVs [.i .u8,.i .u16,.i .i64,.i .i64] r = true) → ∃ ps : List Play,xs = ps.map playC ∧ ∀ p ∈ ps,OkD p.1 ∧ -9223372036854775808 ≤ p.2 ∧ p.2 ≤ 9223372036854775807
 | [],_=>⟨[],rfl,fun p hp=>by cases hp⟩
 | r :: xs,h=>by
  obtain ⟨p,rfl,hp⟩ := play_of (h r (.head _))
  obtain ⟨ps,rfl,hps⟩ := plays_of (fun r hr=>h r (.tail _ hr))
  exact ⟨p :: ps,rfl,fun q hq=>by
   rcases List.mem_cons.1 hq with rfl | hq
   ·exact hp
   exact hps q hq⟩
set_option maxRecDepth 100000 in
theorem open_plays (hv : Value.okWide Tryz.prog W .any base 31 v) (h : DataW.Trod enc Tryz.prog W 0 (fun _=>true) true 31 v d p) :
  ∃ ps : List Play,SlS 4 playC (Cell ⟨Tryz.prog,W,[]⟩ []) v ps ∧ (∀ p ∈ ps,OkD p.1 ∧ -9223372036854775808 ≤ p.2 ∧ p.2 ≤ 9223372036854775807) ∧ ps.length ≤ 9223372036854775807 := by
 obtain ⟨xs,⟨A,c,rfl,hc,hA⟩,hk,hm⟩ := open_sls Tryz.underlying31 flat40p cells40p hv h
 obtain ⟨ps,rfl,hps⟩ := plays_of hk
 refine ⟨ps,⟨A,c,by rw [List.length_map],by rw [List.length_map] at hc; exact hc,fun j x hj=>?_⟩,hps,by rw [List.length_map] at hm; exact hm⟩
 obtain ⟨a,ha,hr⟩ := hA j (playC x) (by rw [List.getElem?_map,hj]; rfl)
 exact ⟨a,ha,hr⟩
end
end Go.Proofs.YtgioegdjeodpiaaGreat
