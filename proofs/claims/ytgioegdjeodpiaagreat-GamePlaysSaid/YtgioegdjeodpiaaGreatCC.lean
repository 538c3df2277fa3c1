/- A part of a proof: contracts and plain facts that it stands on. -/
import Derived.Test.YtgioegdjeodpiaaGreatCB
import Derived.Laws.BitsLemmas
set_option linter.unusedVariables false
set_option linter.unusedSimpArgs false
namespace Go.Proofs.YtgioegdjeodpiaaGreat
open Go.RowKit Go.SX
open Go.SX renaming ia_someH → Φa
set_option maxHeartbeats 1000000
set_option maxRecDepth 100000

def vG (g : GM) (x : Nat) : Int := g.V.getD x 0
def skipG (g : GM) (b : Bool) : Int × GM := (1,if b = true then { g with PC := IntKind.u16.wrap (g.PC + 2) } else g)
def letG (g : GM) (o : Ord) (b : Int) : Int × GM := (1,{ g with V := g.V.set o.x b })
def flagG (g : GM) (o : Ord) (b c : Int) : Int × GM := (1,{ g with V := (g.V.set o.x b).set 15 c })
def truthI (b : Bool) : Int := if b = true then 1 else 0
def downG (g : GM) (o : Ord) (d : Feed) : Bool := decide (bits .and .u16 (d.keys.fdiv (2 ^ min (g.V.getD o.x 0 % 16).toNat 16)) 1 = 1)
theorem down_spec {Γ : Ctx} (hP : Γ.P = Tryz.prog) {L : Hp} {gp : Nat} {g : GM} {sv pv mv : Value} {o : Ord} {f : Fnt} {fv : Value} {d : Feed} {i : Nat} (hi : L[i]? = some (PS gp g sv pv mv o f fv d)) (hx : o.x < 16) (hVb : Byte g.V) :
  SCall Γ 80 #[(.pointer (some ⟨gp,0,none⟩))] L (fun v L'=>v = .bool (downG g o d) ∧ L' = L) := by
 refine SCall.enter (n := 14) (res1 2) (hP ▸ Tryz.func80) rfl rfl (by simp) (res1_ok rfl) ?_
 refine SX.seq_k fun K1 hK1=>?_
 refine SX.region_d [some 2] rfl (fun ops hops=>?_)
 unfold Dsts at hops
 simp (dsimp:=false)(disch:=omega) only [go_sem,Φa,hP,hops]
 repeat' ((first | refine ⟨_,Cell.at i hi (show (pcells _ _ _ _ _ _ _ _)[48]? = _ from rfl),?_⟩ | fail); try refine stI ?_; try simp (dsimp:=false)(disch:=omega) only [go_sem,Φa,hP,hops])
 refine hK1 _ _ ?_
 try clear hK1 K1
 refine SX.seq_k fun K2 hK2=>?_
 have hb := byte_at hVb o.x
 have h15 := u8_and15 (g.V.getD o.x 0) hb.1 (by omega)
 refine SX.quiet_d (hP ▸ T.mixed) (by kernel_rfl) [some 3,some 4,some 5,some 6,some 7,some 8,some 9,some 10,some 11,some 12,some 13,some 2] rfl (fun ops hops=>?_)
 unfold Dsts at hops
 simp (dsimp:=false)(disch:=omega) only [go_sem,Φa,hP,hops,h15]
 repeat' ((first | refine ⟨_,Cell.at i hi (show (pcells _ _ _ _ _ _ _ _)[48]? = _ from rfl),?_⟩ | (refine SCall.mono (x_spec (i := i) hP hi hx) ?_; rintro v_ L_ ⟨hv_,hL_⟩; rw [hv_,hL_]; clear hv_ hL_ v_ L_) | refine ⟨_,x_spec (i := i) hP hi hx,?_⟩ | refine ⟨_,fun L0 hl0=>x_spec (i := i) hP hi hx,?_⟩ | refine And.intro (by omega) ?_ | fail); try refine stI ?_; try simp (dsimp:=false)(disch:=omega) only [go_sem,Φa,hP,hops,h15])
 refine hK2 _ _ ?_
 try clear hK2 K2
 refine SX.ret ?_
 simp only [andThen_normal,andThen_ret,andThen_exit,inBlk_normal,inBlk_ret,inBlk_exit,Nat.reduceEqDiff,if_true,if_false,↓reduceIte,retQ_ret]
 try simp only [res0,res1,res2,res3,stK_e,go_sem,Φa,hP]
 exact ⟨_,_,Less.refl _,rfl,rfl,rfl⟩
theorem jump_spec {Γ : Ctx} (hP : Γ.P = Tryz.prog) {L : Hp} {gp : Nat} {g : GM} {sv pv mv : Value} {o : Ord} {f : Fnt} {fv : Value} {d : Feed} {q1 q2 q3 : Slot} (hg : OkG g) (hr : Rows g sv pv mv q1 q2 q3) (ho : OkO o) (hx : o.x < 16) (hy : o.y < 16) (hd : OkD d) :
  SCall Γ 37 #[(.pointer (some ⟨gp,0,none⟩))] (PS gp g sv pv mv o f fv d :: q1 :: q2 :: q3 :: L) (mres gp o f fv d L (1,{ g with PC := (o.a : Int) })) := by
 have hbx := byte_at hg.Vb o.x
 have hby := byte_at hg.Vb o.y
 have hob := ho.b
 have hoa := ho.a
 have hox := ho.x
 have hPCb := hg.PC
 have hIb := hg.I
 have hrb := hd.rnd
 have hkb := hd.keys
 have hdl := hg.dl
 have hsd := hg.sd
 refine SCall.enter (n := 12) (res1 2) (hP ▸ Tryz.func37) rfl rfl (by simp) (res1_ok rfl) ?_
 refine SX.seq_k fun K1 hK1=>?_
 refine SX.region_d [some 2] rfl (fun ops hops=>?_)
 unfold Dsts at hops
 simp (dsimp:=false)(disch:=omega) only [go_sem,Φa,hP,hops]
 repeat' ((first | refine ⟨_,Cell.at 0 rfl rfl,?_⟩ | refine ⟨0,_,_,_,rfl,(by rw [pcells_length]; omega),.inr (by first | decide | exact Nat.zero_le _),?_⟩ | fail); try refine stI ?_; try simp (dsimp:=false)(disch:=omega) only [go_sem,Φa,hP,hops])
 refine hK1 _ _ ?_
 try clear hK1 K1
 refine SX.seq_k fun K2 hK2=>?_
 refine SX.region_d [some 3,some 4,some 5,some 6,some 7,some 8,some 9,some 10,some 11,none] rfl (fun ops hops=>?_)
 unfold Dsts at hops
 simp (dsimp:=false)(disch:=omega) only [go_sem,Φa,hP,hops]
 repeat' ((first | refine ⟨_,Cell.at 0 rfl rfl,?_⟩ | refine ⟨0,_,_,_,rfl,(by rw [pcells_length]; omega),.inr (by first | decide | exact Nat.zero_le _),?_⟩ | fail); try refine stI ?_; try simp (dsimp:=false)(disch:=omega) only [go_sem,Φa,hP,hops])
 refine hK2 _ _ ?_
 try clear hK2 K2
 refine SX.live [] (fun T1 hT1=>?_)
 clear hT1
 refine SX.seq_k fun K3 hK3=>?_
 refine SX.region_d [some 2] rfl (fun ops hops=>?_)
 unfold Dsts at hops
 simp (dsimp:=false)(disch:=omega) only [go_sem,Φa,hP,hops]
 repeat' ((first | refine ⟨_,Cell.at 0 rfl rfl,?_⟩ | refine ⟨0,_,_,_,rfl,(by rw [pcells_length]; omega),.inr (by first | decide | exact Nat.zero_le _),?_⟩ | fail); try refine stI ?_; try simp (dsimp:=false)(disch:=omega) only [go_sem,Φa,hP,hops])
 refine hK3 _ _ ?_
 try clear hK3 K3
 refine SX.ret ?_
 simp only [andThen_normal,andThen_ret,andThen_exit,inBlk_normal,inBlk_ret,inBlk_exit,Nat.reduceEqDiff,if_true,if_false,↓reduceIte,retQ_ret]
 try simp only [res0,res1,res2,res3,stK_e,go_sem,Φa,hP]
 exact ⟨_,_,Less.refl _,rfl,rfl,sv,pv,mv,q1,q2,q3,rfl,⟨hr.st,hr.pg,hr.mm⟩⟩
theorem skipIs_spec {Γ : Ctx} (hP : Γ.P = Tryz.prog) {L : Hp} {gp : Nat} {g : GM} {sv pv mv : Value} {o : Ord} {f : Fnt} {fv : Value} {d : Feed} {q1 q2 q3 : Slot} (hg : OkG g) (hr : Rows g sv pv mv q1 q2 q3) (ho : OkO o) (hx : o.x < 16) (hy : o.y < 16) (hd : OkD d) :
  SCall Γ 39 #[(.pointer (some ⟨gp,0,none⟩))] (PS gp g sv pv mv o f fv d :: q1 :: q2 :: q3 :: L) (mres gp o f fv d L (skipG g (decide (vG g o.x = (o.b : Int))))) := by
 have hbx := byte_at hg.Vb o.x
 have hby := byte_at hg.Vb o.y
 have hob := ho.b
 have hoa := ho.a
 have hox := ho.x
 have hPCb := hg.PC
 have hIb := hg.I
 have hrb := hd.rnd
 have hkb := hd.keys
 have hdl := hg.dl
 have hsd := hg.sd
 refine SCall.enter (n := 13) (res1 2) (hP ▸ Tryz.func39) rfl rfl (by simp) (res1_ok rfl) ?_
 refine SX.seq_k fun K1 hK1=>?_
 refine SX.region_d [some 2] rfl (fun ops hops=>?_)
 unfold Dsts at hops
 simp (dsimp:=false)(disch:=omega) only [go_sem,Φa,hP,hops]
 repeat' ((first | refine ⟨_,Cell.at 0 rfl rfl,?_⟩ | refine ⟨0,_,_,_,rfl,(by rw [pcells_length]; omega),.inr (by first | decide | exact Nat.zero_le _),?_⟩ | fail); try refine stI ?_; try simp (dsimp:=false)(disch:=omega) only [go_sem,Φa,hP,hops])
 refine hK1 _ _ ?_
 try clear hK1 K1
 refine SX.seq_k fun K2 hK2=>?_
 refine SX.drawn_d [(0,.q),(1,.q),(3,.q),(4,.q),(5,.q),(6,.q),(7,.q),(2,.e),(8,.q),(9,.t),(10,.t)] (fun L=>L) (hP ▸ T.mixed) (by kernel_rfl) (by exact Less.refl _) [some 3,some 4,some 5,some 6,some 7,some 8,some 9,some 10,some 11,some 12,some 2] rfl (fun ops hops hopl=>?_)
 unfold Dsts at hops
 simp (dsimp:=false)(disch:=omega) only [go_sem,Φa,hP,hops,hopl]
 repeat' ((first | refine ⟨_,Cell.at 0 rfl rfl,?_⟩ | refine ⟨0,_,_,_,rfl,(by rw [pcells_length]; omega),.inr (by first | decide | exact Nat.zero_le _),?_⟩ | (refine SCall.mono (x_spec (i := 0) hP rfl hx) ?_; rintro v_ L_ ⟨hv_,hL_⟩; rw [hv_,hL_]; clear hv_ hL_ v_ L_) | refine ⟨_,x_spec (i := 0) hP rfl hx,?_⟩ | refine ⟨_,fun L0 hl0=>x_spec (i := 0) hP rfl hx,?_⟩ | (refine SCall.mono (y_spec (i := 0) hP rfl hy) ?_; rintro v_ L_ ⟨hv_,hL_⟩; rw [hv_,hL_]; clear hv_ hL_ v_ L_) | refine ⟨_,y_spec (i := 0) hP rfl hy,?_⟩ | refine ⟨_,fun L0 hl0=>y_spec (i := 0) hP rfl hy,?_⟩ | (refine SCall.mono (let_spec hP hx hg.V) ?_; rintro v_ L_ ⟨hv_,hL_⟩; rw [hv_,hL_]; clear hv_ hL_ v_ L_) | refine ⟨_,let_spec hP hx hg.V,?_⟩ | refine ⟨_,fun L0 hl0=>let_spec hP hx hg.V,?_⟩ | (refine SCall.mono (skip_spec hP) ?_; rintro v_ L_ ⟨hv_,hL_⟩; rw [hv_,hL_]; clear hv_ hL_ v_ L_) | refine ⟨_,skip_spec hP,?_⟩ | refine ⟨_,fun L0 hl0=>skip_spec hP,?_⟩ | (refine SCall.mono (flagged_spec hP hx hg.V) ?_; rintro v_ L_ ⟨hv_,hL_⟩; rw [hv_,hL_]; clear hv_ hL_ v_ L_) | refine ⟨_,flagged_spec hP hx hg.V,?_⟩ | refine ⟨_,fun L0 hl0=>flagged_spec hP hx hg.V,?_⟩ | (refine SCall.mono (truth_spec hP _) ?_; rintro v_ L_ ⟨hv_,hL_⟩; rw [hv_,hL_]; clear hv_ hL_ v_ L_) | refine ⟨_,truth_spec hP _,?_⟩ | refine ⟨_,fun L0 hl0=>truth_spec hP _,?_⟩ | (refine SCall.mono (down_spec (i := 0) hP rfl hx hg.Vb) ?_; rintro v_ L_ ⟨hv_,hL_⟩; rw [hv_,hL_]; clear hv_ hL_ v_ L_) | refine ⟨_,down_spec (i := 0) hP rfl hx hg.Vb,?_⟩ | refine ⟨_,fun L0 hl0=>down_spec (i := 0) hP rfl hx hg.Vb,?_⟩ | (refine SCall.mono (behind_spec hP hx) ?_; rintro v_ L_ ⟨hv_,hL_⟩; rw [hv_,hL_]; clear hv_ hL_ v_ L_) | refine ⟨_,behind_spec hP hx,?_⟩ | refine ⟨_,fun L0 hl0=>behind_spec hP hx,?_⟩ | refine And.intro (by omega) ?_ | fail); try refine stI ?_; try simp (dsimp:=false)(disch:=omega) only [go_sem,Φa,hP,hops,hopl])
 refine hK2 _ _ ?_
 try clear hK2 K2
 refine SX.ret ?_
 simp only [andThen_normal,andThen_ret,andThen_exit,inBlk_normal,inBlk_ret,inBlk_exit,Nat.reduceEqDiff,if_true,if_false,↓reduceIte,retQ_ret]
 try simp only [res0,res1,res2,res3,stK_e,go_sem,Φa,hP]
 refine ⟨_,_,Less.refl _,rfl,rfl,sv,pv,mv,q1,q2,q3,?_,?_⟩
 ·first | rfl | (unfold skipG vG; simp only [decide_eq_true_eq,Bool.not_eq_true',decide_eq_false_iff_not]; done) | (unfold skipG; simp only [decide_eq_true_eq,Bool.not_eq_true',decide_eq_false_iff_not]; done) | (unfold skipG vG; simp only [decide_eq_true_eq,Bool.not_eq_true',decide_eq_false_iff_not]; rfl)
 unfold skipG; dsimp only; split <;> exact ⟨hr.st,hr.pg,hr.mm⟩
theorem skipNot_spec {Γ : Ctx} (hP : Γ.P = Tryz.prog) {L : Hp} {gp : Nat} {g : GM} {sv pv mv : Value} {o : Ord} {f : Fnt} {fv : Value} {d : Feed} {q1 q2 q3 : Slot} (hg : OkG g) (hr : Rows g sv pv mv q1 q2 q3) (ho : OkO o) (hx : o.x < 16) (hy : o.y < 16) (hd : OkD d) :
  SCall Γ 40 #[(.pointer (some ⟨gp,0,none⟩))] (PS gp g sv pv mv o f fv d :: q1 :: q2 :: q3 :: L) (mres gp o f fv d L (skipG g (!decide (vG g o.x = (o.b : Int))))) := by
 have hbx := byte_at hg.Vb o.x
 have hby := byte_at hg.Vb o.y
 have hob := ho.b
 have hoa := ho.a
 have hox := ho.x
 have hPCb := hg.PC
 have hIb := hg.I
 have hrb := hd.rnd
 have hkb := hd.keys
 have hdl := hg.dl
 have hsd := hg.sd
 refine SCall.enter (n := 13) (res1 2) (hP ▸ Tryz.func40) rfl rfl (by simp) (res1_ok rfl) ?_
 refine SX.seq_k fun K1 hK1=>?_
 refine SX.region_d [some 2] rfl (fun ops hops=>?_)
 unfold Dsts at hops
 simp (dsimp:=false)(disch:=omega) only [go_sem,Φa,hP,hops]
 repeat' ((first | refine ⟨_,Cell.at 0 rfl rfl,?_⟩ | refine ⟨0,_,_,_,rfl,(by rw [pcells_length]; omega),.inr (by first | decide | exact Nat.zero_le _),?_⟩ | fail); try refine stI ?_; try simp (dsimp:=false)(disch:=omega) only [go_sem,Φa,hP,hops])
 refine hK1 _ _ ?_
 try clear hK1 K1
 refine SX.seq_k fun K2 hK2=>?_
 refine SX.drawn_d [(0,.q),(1,.q),(3,.q),(4,.q),(5,.q),(6,.q),(7,.q),(2,.e),(8,.q),(9,.t),(10,.t)] (fun L=>L) (hP ▸ T.mixed) (by kernel_rfl) (by exact Less.refl _) [some 3,some 4,some 5,some 6,some 7,some 8,some 9,some 10,some 11,some 12,some 2] rfl (fun ops hops hopl=>?_)
 unfold Dsts at hops
 simp (dsimp:=false)(disch:=omega) only [go_sem,Φa,hP,hops,hopl]
 repeat' ((first | refine ⟨_,Cell.at 0 rfl rfl,?_⟩ | refine ⟨0,_,_,_,rfl,(by rw [pcells_length]; omega),.inr (by first | decide | exact Nat.zero_le _),?_⟩ | (refine SCall.mono (x_spec (i := 0) hP rfl hx) ?_; rintro v_ L_ ⟨hv_,hL_⟩; rw [hv_,hL_]; clear hv_ hL_ v_ L_) | refine ⟨_,x_spec (i := 0) hP rfl hx,?_⟩ | refine ⟨_,fun L0 hl0=>x_spec (i := 0) hP rfl hx,?_⟩ | (refine SCall.mono (y_spec (i := 0) hP rfl hy) ?_; rintro v_ L_ ⟨hv_,hL_⟩; rw [hv_,hL_]; clear hv_ hL_ v_ L_) | refine ⟨_,y_spec (i := 0) hP rfl hy,?_⟩ | refine ⟨_,fun L0 hl0=>y_spec (i := 0) hP rfl hy,?_⟩ | (refine SCall.mono (let_spec hP hx hg.V) ?_; rintro v_ L_ ⟨hv_,hL_⟩; rw [hv_,hL_]; clear hv_ hL_ v_ L_) | refine ⟨_,let_spec hP hx hg.V,?_⟩ | refine ⟨_,fun L0 hl0=>let_spec hP hx hg.V,?_⟩ | (refine SCall.mono (skip_spec hP) ?_; rintro v_ L_ ⟨hv_,hL_⟩; rw [hv_,hL_]; clear hv_ hL_ v_ L_) | refine ⟨_,skip_spec hP,?_⟩ | refine ⟨_,fun L0 hl0=>skip_spec hP,?_⟩ | (refine SCall.mono (flagged_spec hP hx hg.V) ?_; rintro v_ L_ ⟨hv_,hL_⟩; rw [hv_,hL_]; clear hv_ hL_ v_ L_) | refine ⟨_,flagged_spec hP hx hg.V,?_⟩ | refine ⟨_,fun L0 hl0=>flagged_spec hP hx hg.V,?_⟩ | (refine SCall.mono (truth_spec hP _) ?_; rintro v_ L_ ⟨hv_,hL_⟩; rw [hv_,hL_]; clear hv_ hL_ v_ L_) | refine ⟨_,truth_spec hP _,?_⟩ | refine ⟨_,fun L0 hl0=>truth_spec hP _,?_⟩ | (refine SCall.mono (down_spec (i := 0) hP rfl hx hg.Vb) ?_; rintro v_ L_ ⟨hv_,hL_⟩; rw [hv_,hL_]; clear hv_ hL_ v_ L_) | refine ⟨_,down_spec (i := 0) hP rfl hx hg.Vb,?_⟩ | refine ⟨_,fun L0 hl0=>down_spec (i := 0) hP rfl hx hg.Vb,?_⟩ | (refine SCall.mono (behind_spec hP hx) ?_; rintro v_ L_ ⟨hv_,hL_⟩; rw [hv_,hL_]; clear hv_ hL_ v_ L_) | refine ⟨_,behind_spec hP hx,?_⟩ | refine ⟨_,fun L0 hl0=>behind_spec hP hx,?_⟩ | refine And.intro (by omega) ?_ | fail); try refine stI ?_; try simp (dsimp:=false)(disch:=omega) only [go_sem,Φa,hP,hops,hopl])
 refine hK2 _ _ ?_
 try clear hK2 K2
 refine SX.ret ?_
 simp only [andThen_normal,andThen_ret,andThen_exit,inBlk_normal,inBlk_ret,inBlk_exit,Nat.reduceEqDiff,if_true,if_false,↓reduceIte,retQ_ret]
 try simp only [res0,res1,res2,res3,stK_e,go_sem,Φa,hP]
 refine ⟨_,_,Less.refl _,rfl,rfl,sv,pv,mv,q1,q2,q3,?_,?_⟩
 ·first | rfl | (unfold skipG vG; simp only [decide_eq_true_eq,Bool.not_eq_true',decide_eq_false_iff_not]; done) | (unfold skipG; simp only [decide_eq_true_eq,Bool.not_eq_true',decide_eq_false_iff_not]; done) | (unfold skipG vG; simp only [decide_eq_true_eq,Bool.not_eq_true',decide_eq_false_iff_not]; rfl)
 unfold skipG; dsimp only; split <;> exact ⟨hr.st,hr.pg,hr.mm⟩
theorem skipSame_spec {Γ : Ctx} (hP : Γ.P = Tryz.prog) {L : Hp} {gp : Nat} {g : GM} {sv pv mv : Value} {o : Ord} {f : Fnt} {fv : Value} {d : Feed} {q1 q2 q3 : Slot} (hg : OkG g) (hr : Rows g sv pv mv q1 q2 q3) (ho : OkO o) (hx : o.x < 16) (hy : o.y < 16) (hd : OkD d) :
  SCall Γ 41 #[(.pointer (some ⟨gp,0,none⟩))] (PS gp g sv pv mv o f fv d :: q1 :: q2 :: q3 :: L) (mres gp o f fv d L (skipG g (decide (vG g o.x = vG g o.y)))) := by
 have hbx := byte_at hg.Vb o.x
 have hby := byte_at hg.Vb o.y
 have hob := ho.b
 have hoa := ho.a
 have hox := ho.x
 have hPCb := hg.PC
 have hIb := hg.I
 have hrb := hd.rnd
 have hkb := hd.keys
 have hdl := hg.dl
 have hsd := hg.sd
 refine SCall.enter (n := 10) (res1 2) (hP ▸ Tryz.func41) rfl rfl (by simp) (res1_ok rfl) ?_
 refine SX.seq_k fun K1 hK1=>?_
 refine SX.region_d [some 2] rfl (fun ops hops=>?_)
 unfold Dsts at hops
 simp (dsimp:=false)(disch:=omega) only [go_sem,Φa,hP,hops]
 repeat' ((first | refine ⟨_,Cell.at 0 rfl rfl,?_⟩ | refine ⟨0,_,_,_,rfl,(by rw [pcells_length]; omega),.inr (by first | decide | exact Nat.zero_le _),?_⟩ | fail); try refine stI ?_; try simp (dsimp:=false)(disch:=omega) only [go_sem,Φa,hP,hops])
 refine hK1 _ _ ?_
 try clear hK1 K1
 refine SX.seq_k fun K2 hK2=>?_
 refine SX.region_d [some 3,some 4,some 5,some 6,some 7,some 8,some 9,some 2] rfl (fun ops hops=>?_)
 unfold Dsts at hops
 simp (dsimp:=false)(disch:=omega) only [go_sem,Φa,hP,hops]
 repeat' ((first | refine ⟨_,Cell.at 0 rfl rfl,?_⟩ | refine ⟨0,_,_,_,rfl,(by rw [pcells_length]; omega),.inr (by first | decide | exact Nat.zero_le _),?_⟩ | (refine SCall.mono (x_spec (i := 0) hP rfl hx) ?_; rintro v_ L_ ⟨hv_,hL_⟩; rw [hv_,hL_]; clear hv_ hL_ v_ L_) | refine ⟨_,x_spec (i := 0) hP rfl hx,?_⟩ | refine ⟨_,fun L0 hl0=>x_spec (i := 0) hP rfl hx,?_⟩ | (refine SCall.mono (y_spec (i := 0) hP rfl hy) ?_; rintro v_ L_ ⟨hv_,hL_⟩; rw [hv_,hL_]; clear hv_ hL_ v_ L_) | refine ⟨_,y_spec (i := 0) hP rfl hy,?_⟩ | refine ⟨_,fun L0 hl0=>y_spec (i := 0) hP rfl hy,?_⟩ | (refine SCall.mono (let_spec hP hx hg.V) ?_; rintro v_ L_ ⟨hv_,hL_⟩; rw [hv_,hL_]; clear hv_ hL_ v_ L_) | refine ⟨_,let_spec hP hx hg.V,?_⟩ | refine ⟨_,fun L0 hl0=>let_spec hP hx hg.V,?_⟩ | (refine SCall.mono (skip_spec hP) ?_; rintro v_ L_ ⟨hv_,hL_⟩; rw [hv_,hL_]; clear hv_ hL_ v_ L_) | refine ⟨_,skip_spec hP,?_⟩ | refine ⟨_,fun L0 hl0=>skip_spec hP,?_⟩ | (refine SCall.mono (flagged_spec hP hx hg.V) ?_; rintro v_ L_ ⟨hv_,hL_⟩; rw [hv_,hL_]; clear hv_ hL_ v_ L_) | refine ⟨_,flagged_spec hP hx hg.V,?_⟩ | refine ⟨_,fun L0 hl0=>flagged_spec hP hx hg.V,?_⟩ | (refine SCall.mono (truth_spec hP _) ?_; rintro v_ L_ ⟨hv_,hL_⟩; rw [hv_,hL_]; clear hv_ hL_ v_ L_) | refine ⟨_,truth_spec hP _,?_⟩ | refine ⟨_,fun L0 hl0=>truth_spec hP _,?_⟩ | (refine SCall.mono (down_spec (i := 0) hP rfl hx hg.Vb) ?_; rintro v_ L_ ⟨hv_,hL_⟩; rw [hv_,hL_]; clear hv_ hL_ v_ L_) | refine ⟨_,down_spec (i := 0) hP rfl hx hg.Vb,?_⟩ | refine ⟨_,fun L0 hl0=>down_spec (i := 0) hP rfl hx hg.Vb,?_⟩ | (refine SCall.mono (behind_spec hP hx) ?_; rintro v_ L_ ⟨hv_,hL_⟩; rw [hv_,hL_]; clear hv_ hL_ v_ L_) | refine ⟨_,behind_spec hP hx,?_⟩ | refine ⟨_,fun L0 hl0=>behind_spec hP hx,?_⟩ | refine And.intro (by omega) ?_ | fail); try refine stI ?_; try simp (dsimp:=false)(disch:=omega) only [go_sem,Φa,hP,hops])
 refine hK2 _ _ ?_
 try clear hK2 K2
 refine SX.ret ?_
 simp only [andThen_normal,andThen_ret,andThen_exit,inBlk_normal,inBlk_ret,inBlk_exit,Nat.reduceEqDiff,if_true,if_false,↓reduceIte,retQ_ret]
 try simp only [res0,res1,res2,res3,stK_e,go_sem,Φa,hP]
 refine ⟨_,_,Less.refl _,rfl,rfl,sv,pv,mv,q1,q2,q3,?_,?_⟩
 ·first | rfl | (unfold skipG vG; simp only [decide_eq_true_eq,Bool.not_eq_true',decide_eq_false_iff_not]; done) | (unfold skipG; simp only [decide_eq_true_eq,Bool.not_eq_true',decide_eq_false_iff_not]; done) | (unfold skipG vG; simp only [decide_eq_true_eq,Bool.not_eq_true',decide_eq_false_iff_not]; rfl)
 unfold skipG; dsimp only; split <;> exact ⟨hr.st,hr.pg,hr.mm⟩
theorem skipOther_spec {Γ : Ctx} (hP : Γ.P = Tryz.prog) {L : Hp} {gp : Nat} {g : GM} {sv pv mv : Value} {o : Ord} {f : Fnt} {fv : Value} {d : Feed} {q1 q2 q3 : Slot} (hg : OkG g) (hr : Rows g sv pv mv q1 q2 q3) (ho : OkO o) (hx : o.x < 16) (hy : o.y < 16) (hd : OkD d) :
  SCall Γ 49 #[(.pointer (some ⟨gp,0,none⟩))] (PS gp g sv pv mv o f fv d :: q1 :: q2 :: q3 :: L) (mres gp o f fv d L (skipG g (!decide (vG g o.x = vG g o.y)))) := by
 have hbx := byte_at hg.Vb o.x
 have hby := byte_at hg.Vb o.y
 have hob := ho.b
 have hoa := ho.a
 have hox := ho.x
 have hPCb := hg.PC
 have hIb := hg.I
 have hrb := hd.rnd
 have hkb := hd.keys
 have hdl := hg.dl
 have hsd := hg.sd
 refine SCall.enter (n := 10) (res1 2) (hP ▸ Tryz.func49) rfl rfl (by simp) (res1_ok rfl) ?_
 refine SX.seq_k fun K1 hK1=>?_
 refine SX.region_d [some 2] rfl (fun ops hops=>?_)
 unfold Dsts at hops
 simp (dsimp:=false)(disch:=omega) only [go_sem,Φa,hP,hops]
 repeat' ((first | refine ⟨_,Cell.at 0 rfl rfl,?_⟩ | refine ⟨0,_,_,_,rfl,(by rw [pcells_length]; omega),.inr (by first | decide | exact Nat.zero_le _),?_⟩ | fail); try refine stI ?_; try simp (dsimp:=false)(disch:=omega) only [go_sem,Φa,hP,hops])
 refine hK1 _ _ ?_
 try clear hK1 K1
 refine SX.seq_k fun K2 hK2=>?_
 refine SX.region_d [some 3,some 4,some 5,some 6,some 7,some 8,some 9,some 2] rfl (fun ops hops=>?_)
 unfold Dsts at hops
 simp (dsimp:=false)(disch:=omega) only [go_sem,Φa,hP,hops]
 repeat' ((first | refine ⟨_,Cell.at 0 rfl rfl,?_⟩ | refine ⟨0,_,_,_,rfl,(by rw [pcells_length]; omega),.inr (by first | decide | exact Nat.zero_le _),?_⟩ | (refine SCall.mono (x_spec (i := 0) hP rfl hx) ?_; rintro v_ L_ ⟨hv_,hL_⟩; rw [hv_,hL_]; clear hv_ hL_ v_ L_) | refine ⟨_,x_spec (i := 0) hP rfl hx,?_⟩ | refine ⟨_,fun L0 hl0=>x_spec (i := 0) hP rfl hx,?_⟩ | (refine SCall.mono (y_spec (i := 0) hP rfl hy) ?_; rintro v_ L_ ⟨hv_,hL_⟩; rw [hv_,hL_]; clear hv_ hL_ v_ L_) | refine ⟨_,y_spec (i := 0) hP rfl hy,?_⟩ | refine ⟨_,fun L0 hl0=>y_spec (i := 0) hP rfl hy,?_⟩ | (refine SCall.mono (let_spec hP hx hg.V) ?_; rintro v_ L_ ⟨hv_,hL_⟩; rw [hv_,hL_]; clear hv_ hL_ v_ L_) | refine ⟨_,let_spec hP hx hg.V,?_⟩ | refine ⟨_,fun L0 hl0=>let_spec hP hx hg.V,?_⟩ | (refine SCall.mono (skip_spec hP) ?_; rintro v_ L_ ⟨hv_,hL_⟩; rw [hv_,hL_]; clear hv_ hL_ v_ L_) | refine ⟨_,skip_spec hP,?_⟩ | refine ⟨_,fun L0 hl0=>skip_spec hP,?_⟩ | (refine SCall.mono (flagged_spec hP hx hg.V) ?_; rintro v_ L_ ⟨hv_,hL_⟩; rw [hv_,hL_]; clear hv_ hL_ v_ L_) | refine ⟨_,flagged_spec hP hx hg.V,?_⟩ | refine ⟨_,fun L0 hl0=>flagged_spec hP hx hg.V,?_⟩ | (refine SCall.mono (truth_spec hP _) ?_; rintro v_ L_ ⟨hv_,hL_⟩; rw [hv_,hL_]; clear hv_ hL_ v_ L_) | refine ⟨_,truth_spec hP _,?_⟩ | refine ⟨_,fun L0 hl0=>truth_spec hP _,?_⟩ | (refine SCall.mono (down_spec (i := 0) hP rfl hx hg.Vb) ?_; rintro v_ L_ ⟨hv_,hL_⟩; rw [hv_,hL_]; clear hv_ hL_ v_ L_) | refine ⟨_,down_spec (i := 0) hP rfl hx hg.Vb,?_⟩ | refine ⟨_,fun L0 hl0=>down_spec (i := 0) hP rfl hx hg.Vb,?_⟩ | (refine SCall.mono (behind_spec hP hx) ?_; rintro v_ L_ ⟨hv_,hL_⟩; rw [hv_,hL_]; clear hv_ hL_ v_ L_) | refine ⟨_,behind_spec hP hx,?_⟩ | refine ⟨_,fun L0 hl0=>behind_spec hP hx,?_⟩ | refine And.intro (by omega) ?_ | fail); try refine stI ?_; try simp (dsimp:=false)(disch:=omega) only [go_sem,Φa,hP,hops])
 refine hK2 _ _ ?_
 try clear hK2 K2
 refine SX.ret ?_
 simp only [andThen_normal,andThen_ret,andThen_exit,inBlk_normal,inBlk_ret,inBlk_exit,Nat.reduceEqDiff,if_true,if_false,↓reduceIte,retQ_ret]
 try simp only [res0,res1,res2,res3,stK_e,go_sem,Φa,hP]
 refine ⟨_,_,Less.refl _,rfl,rfl,sv,pv,mv,q1,q2,q3,?_,?_⟩
 ·first | rfl | (unfold skipG vG; simp only [decide_eq_true_eq,Bool.not_eq_true',decide_eq_false_iff_not]; done) | (unfold skipG; simp only [decide_eq_true_eq,Bool.not_eq_true',decide_eq_false_iff_not]; done) | (unfold skipG vG; simp only [decide_eq_true_eq,Bool.not_eq_true',decide_eq_false_iff_not]; rfl)
 unfold skipG; dsimp only; split <;> exact ⟨hr.st,hr.pg,hr.mm⟩
theorem skipDown_spec {Γ : Ctx} (hP : Γ.P = Tryz.prog) {L : Hp} {gp : Nat} {g : GM} {sv pv mv : Value} {o : Ord} {f : Fnt} {fv : Value} {d : Feed} {q1 q2 q3 : Slot} (hg : OkG g) (hr : Rows g sv pv mv q1 q2 q3) (ho : OkO o) (hx : o.x < 16) (hy : o.y < 16) (hd : OkD d) :
  SCall Γ 54 #[(.pointer (some ⟨gp,0,none⟩))] (PS gp g sv pv mv o f fv d :: q1 :: q2 :: q3 :: L) (mres gp o f fv d L (skipG g (downG g o d))) := by
 have hbx := byte_at hg.Vb o.x
 have hby := byte_at hg.Vb o.y
 have hob := ho.b
 have hoa := ho.a
 have hox := ho.x
 have hPCb := hg.PC
 have hIb := hg.I
 have hrb := hd.rnd
 have hkb := hd.keys
 have hdl := hg.dl
 have hsd := hg.sd
 refine SCall.enter (n := 7) (res1 2) (hP ▸ Tryz.func54) rfl rfl (by simp) (res1_ok rfl) ?_
 refine SX.seq_k fun K1 hK1=>?_
 refine SX.region_d [some 2] rfl (fun ops hops=>?_)
 unfold Dsts at hops
 simp (dsimp:=false)(disch:=omega) only [go_sem,Φa,hP,hops]
 repeat' ((first | refine ⟨_,Cell.at 0 rfl rfl,?_⟩ | refine ⟨0,_,_,_,rfl,(by rw [pcells_length]; omega),.inr (by first | decide | exact Nat.zero_le _),?_⟩ | fail); try refine stI ?_; try simp (dsimp:=false)(disch:=omega) only [go_sem,Φa,hP,hops])
 refine hK1 _ _ ?_
 try clear hK1 K1
 refine SX.seq_k fun K2 hK2=>?_
 refine SX.region_d [some 3,some 4,some 5,some 6,some 2] rfl (fun ops hops=>?_)
 unfold Dsts at hops
 simp (dsimp:=false)(disch:=omega) only [go_sem,Φa,hP,hops]
 repeat' ((first | refine ⟨_,Cell.at 0 rfl rfl,?_⟩ | refine ⟨0,_,_,_,rfl,(by rw [pcells_length]; omega),.inr (by first | decide | exact Nat.zero_le _),?_⟩ | (refine SCall.mono (x_spec (i := 0) hP rfl hx) ?_; rintro v_ L_ ⟨hv_,hL_⟩; rw [hv_,hL_]; clear hv_ hL_ v_ L_) | refine ⟨_,x_spec (i := 0) hP rfl hx,?_⟩ | refine ⟨_,fun L0 hl0=>x_spec (i := 0) hP rfl hx,?_⟩ | (refine SCall.mono (y_spec (i := 0) hP rfl hy) ?_; rintro v_ L_ ⟨hv_,hL_⟩; rw [hv_,hL_]; clear hv_ hL_ v_ L_) | refine ⟨_,y_spec (i := 0) hP rfl hy,?_⟩ | refine ⟨_,fun L0 hl0=>y_spec (i := 0) hP rfl hy,?_⟩ | (refine SCall.mono (let_spec hP hx hg.V) ?_; rintro v_ L_ ⟨hv_,hL_⟩; rw [hv_,hL_]; clear hv_ hL_ v_ L_) | refine ⟨_,let_spec hP hx hg.V,?_⟩ | refine ⟨_,fun L0 hl0=>let_spec hP hx hg.V,?_⟩ | (refine SCall.mono (skip_spec hP) ?_; rintro v_ L_ ⟨hv_,hL_⟩; rw [hv_,hL_]; clear hv_ hL_ v_ L_) | refine ⟨_,skip_spec hP,?_⟩ | refine ⟨_,fun L0 hl0=>skip_spec hP,?_⟩ | (refine SCall.mono (flagged_spec hP hx hg.V) ?_; rintro v_ L_ ⟨hv_,hL_⟩; rw [hv_,hL_]; clear hv_ hL_ v_ L_) | refine ⟨_,flagged_spec hP hx hg.V,?_⟩ | refine ⟨_,fun L0 hl0=>flagged_spec hP hx hg.V,?_⟩ | (refine SCall.mono (truth_spec hP _) ?_; rintro v_ L_ ⟨hv_,hL_⟩; rw [hv_,hL_]; clear hv_ hL_ v_ L_) | refine ⟨_,truth_spec hP _,?_⟩ | refine ⟨_,fun L0 hl0=>truth_spec hP _,?_⟩ | (refine SCall.mono (down_spec (i := 0) hP rfl hx hg.Vb) ?_; rintro v_ L_ ⟨hv_,hL_⟩; rw [hv_,hL_]; clear hv_ hL_ v_ L_) | refine ⟨_,down_spec (i := 0) hP rfl hx hg.Vb,?_⟩ | refine ⟨_,fun L0 hl0=>down_spec (i := 0) hP rfl hx hg.Vb,?_⟩ | (refine SCall.mono (behind_spec hP hx) ?_; rintro v_ L_ ⟨hv_,hL_⟩; rw [hv_,hL_]; clear hv_ hL_ v_ L_) | refine ⟨_,behind_spec hP hx,?_⟩ | refine ⟨_,fun L0 hl0=>behind_spec hP hx,?_⟩ | refine And.intro (by omega) ?_ | fail); try refine stI ?_; try simp (dsimp:=false)(disch:=omega) only [go_sem,Φa,hP,hops])
 refine hK2 _ _ ?_
 try clear hK2 K2
 refine SX.ret ?_
 simp only [andThen_normal,andThen_ret,andThen_exit,inBlk_normal,inBlk_ret,inBlk_exit,Nat.reduceEqDiff,if_true,if_false,↓reduceIte,retQ_ret]
 try simp only [res0,res1,res2,res3,stK_e,go_sem,Φa,hP]
 refine ⟨_,_,Less.refl _,rfl,rfl,sv,pv,mv,q1,q2,q3,?_,?_⟩
 ·first | rfl | (unfold skipG vG; simp only [decide_eq_true_eq,Bool.not_eq_true',decide_eq_false_iff_not]; done) | (unfold skipG; simp only [decide_eq_true_eq,Bool.not_eq_true',decide_eq_false_iff_not]; done) | (unfold skipG vG; simp only [decide_eq_true_eq,Bool.not_eq_true',decide_eq_false_iff_not]; rfl)
 unfold skipG; dsimp only; split <;> exact ⟨hr.st,hr.pg,hr.mm⟩
theorem skipUp_spec {Γ : Ctx} (hP : Γ.P = Tryz.prog) {L : Hp} {gp : Nat} {g : GM} {sv pv mv : Value} {o : Ord} {f : Fnt} {fv : Value} {d : Feed} {q1 q2 q3 : Slot} (hg : OkG g) (hr : Rows g sv pv mv q1 q2 q3) (ho : OkO o) (hx : o.x < 16) (hy : o.y < 16) (hd : OkD d) :
  SCall Γ 55 #[(.pointer (some ⟨gp,0,none⟩))] (PS gp g sv pv mv o f fv d :: q1 :: q2 :: q3 :: L) (mres gp o f fv d L (skipG g (!downG g o d))) := by
 have hbx := byte_at hg.Vb o.x
 have hby := byte_at hg.Vb o.y
 have hob := ho.b
 have hoa := ho.a
 have hox := ho.x
 have hPCb := hg.PC
 have hIb := hg.I
 have hrb := hd.rnd
 have hkb := hd.keys
 have hdl := hg.dl
 have hsd := hg.sd
 refine SCall.enter (n := 8) (res1 2) (hP ▸ Tryz.func55) rfl rfl (by simp) (res1_ok rfl) ?_
 refine SX.seq_k fun K1 hK1=>?_
 refine SX.region_d [some 2] rfl (fun ops hops=>?_)
 unfold Dsts at hops
 simp (dsimp:=false)(disch:=omega) only [go_sem,Φa,hP,hops]
 repeat' ((first | refine ⟨_,Cell.at 0 rfl rfl,?_⟩ | refine ⟨0,_,_,_,rfl,(by rw [pcells_length]; omega),.inr (by first | decide | exact Nat.zero_le _),?_⟩ | fail); try refine stI ?_; try simp (dsimp:=false)(disch:=omega) only [go_sem,Φa,hP,hops])
 refine hK1 _ _ ?_
 try clear hK1 K1
 refine SX.seq_k fun K2 hK2=>?_
 refine SX.region_d [some 3,some 4,some 5,some 6,some 7,some 2] rfl (fun ops hops=>?_)
 unfold Dsts at hops
 simp (dsimp:=false)(disch:=omega) only [go_sem,Φa,hP,hops]
 repeat' ((first | refine ⟨_,Cell.at 0 rfl rfl,?_⟩ | refine ⟨0,_,_,_,rfl,(by rw [pcells_length]; omega),.inr (by first | decide | exact Nat.zero_le _),?_⟩ | (refine SCall.mono (x_spec (i := 0) hP rfl hx) ?_; rintro v_ L_ ⟨hv_,hL_⟩; rw [hv_,hL_]; clear hv_ hL_ v_ L_) | refine ⟨_,x_spec (i := 0) hP rfl hx,?_⟩ | refine ⟨_,fun L0 hl0=>x_spec (i := 0) hP rfl hx,?_⟩ | (refine SCall.mono (y_spec (i := 0) hP rfl hy) ?_; rintro v_ L_ ⟨hv_,hL_⟩; rw [hv_,hL_]; clear hv_ hL_ v_ L_) | refine ⟨_,y_spec (i := 0) hP rfl hy,?_⟩ | refine ⟨_,fun L0 hl0=>y_spec (i := 0) hP rfl hy,?_⟩ | (refine SCall.mono (let_spec hP hx hg.V) ?_; rintro v_ L_ ⟨hv_,hL_⟩; rw [hv_,hL_]; clear hv_ hL_ v_ L_) | refine ⟨_,let_spec hP hx hg.V,?_⟩ | refine ⟨_,fun L0 hl0=>let_spec hP hx hg.V,?_⟩ | (refine SCall.mono (skip_spec hP) ?_; rintro v_ L_ ⟨hv_,hL_⟩; rw [hv_,hL_]; clear hv_ hL_ v_ L_) | refine ⟨_,skip_spec hP,?_⟩ | refine ⟨_,fun L0 hl0=>skip_spec hP,?_⟩ | (refine SCall.mono (flagged_spec hP hx hg.V) ?_; rintro v_ L_ ⟨hv_,hL_⟩; rw [hv_,hL_]; clear hv_ hL_ v_ L_) | refine ⟨_,flagged_spec hP hx hg.V,?_⟩ | refine ⟨_,fun L0 hl0=>flagged_spec hP hx hg.V,?_⟩ | (refine SCall.mono (truth_spec hP _) ?_; rintro v_ L_ ⟨hv_,hL_⟩; rw [hv_,hL_]; clear hv_ hL_ v_ L_) | refine ⟨_,truth_spec hP _,?_⟩ | refine ⟨_,fun L0 hl0=>truth_spec hP _,?_⟩ | (refine SCall.mono (down_spec (i := 0) hP rfl hx hg.Vb) ?_; rintro v_ L_ ⟨hv_,hL_⟩; rw [hv_,hL_]; clear hv_ hL_ v_ L_) | refine ⟨_,down_spec (i := 0) hP rfl hx hg.Vb,?_⟩ | refine ⟨_,fun L0 hl0=>down_spec (i := 0) hP rfl hx hg.Vb,?_⟩ | (refine SCall.mono (behind_spec hP hx) ?_; rintro v_ L_ ⟨hv_,hL_⟩; rw [hv_,hL_]; clear hv_ hL_ v_ L_) | refine ⟨_,behind_spec hP hx,?_⟩ | refine ⟨_,fun L0 hl0=>behind_spec hP hx,?_⟩ | refine And.intro (by omega) ?_ | fail); try refine stI ?_; try simp (dsimp:=false)(disch:=omega) only [go_sem,Φa,hP,hops])
 refine hK2 _ _ ?_
 try clear hK2 K2
 refine SX.ret ?_
 simp only [andThen_normal,andThen_ret,andThen_exit,inBlk_normal,inBlk_ret,inBlk_exit,Nat.reduceEqDiff,if_true,if_false,↓reduceIte,retQ_ret]
 try simp only [res0,res1,res2,res3,stK_e,go_sem,Φa,hP]
 refine ⟨_,_,Less.refl _,rfl,rfl,sv,pv,mv,q1,q2,q3,?_,?_⟩
 ·first | rfl | (unfold skipG vG; simp only [decide_eq_true_eq,Bool.not_eq_true',decide_eq_false_iff_not]; done) | (unfold skipG; simp only [decide_eq_true_eq,Bool.not_eq_true',decide_eq_false_iff_not]; done) | (unfold skipG vG; simp only [decide_eq_true_eq,Bool.not_eq_true',decide_eq_false_iff_not]; rfl)
 unfold skipG; dsimp only; split <;> exact ⟨hr.st,hr.pg,hr.mm⟩
theorem set_spec {Γ : Ctx} (hP : Γ.P = Tryz.prog) {L : Hp} {gp : Nat} {g : GM} {sv pv mv : Value} {o : Ord} {f : Fnt} {fv : Value} {d : Feed} {q1 q2 q3 : Slot} (hg : OkG g) (hr : Rows g sv pv mv q1 q2 q3) (ho : OkO o) (hx : o.x < 16) (hy : o.y < 16) (hd : OkD d) :
  SCall Γ 42 #[(.pointer (some ⟨gp,0,none⟩))] (PS gp g sv pv mv o f fv d :: q1 :: q2 :: q3 :: L) (mres gp o f fv d L (letG g o (o.b : Int))) := by
 have hbx := byte_at hg.Vb o.x
 have hby := byte_at hg.Vb o.y
 have hob := ho.b
 have hoa := ho.a
 have hox := ho.x
 have hPCb := hg.PC
 have hIb := hg.I
 have hrb := hd.rnd
 have hkb := hd.keys
 have hdl := hg.dl
 have hsd := hg.sd
 refine SCall.enter (n := 10) (res1 2) (hP ▸ Tryz.func42) rfl rfl (by simp) (res1_ok rfl) ?_
 refine SX.seq_k fun K1 hK1=>?_
 refine SX.region_d [some 2] rfl (fun ops hops=>?_)
 unfold Dsts at hops
 simp (dsimp:=false)(disch:=omega) only [go_sem,Φa,hP,hops]
 repeat' ((first | refine ⟨_,Cell.at 0 rfl rfl,?_⟩ | refine ⟨0,_,_,_,rfl,(by rw [pcells_length]; omega),.inr (by first | decide | exact Nat.zero_le _),?_⟩ | fail); try refine stI ?_; try simp (dsimp:=false)(disch:=omega) only [go_sem,Φa,hP,hops])
 refine hK1 _ _ ?_
 try clear hK1 K1
 refine SX.seq_k fun K2 hK2=>?_
 refine SX.region_d [some 3,some 4,some 5,some 6,some 7,some 8,some 9] rfl (fun ops hops=>?_)
 unfold Dsts at hops
 simp (dsimp:=false)(disch:=omega) only [go_sem,Φa,hP,hops]
 repeat' ((first | refine ⟨_,Cell.at 0 rfl rfl,?_⟩ | refine ⟨0,_,_,_,rfl,(by rw [pcells_length]; omega),.inr (by first | decide | exact Nat.zero_le _),?_⟩ | (refine SCall.mono (x_spec (i := 0) hP rfl hx) ?_; rintro v_ L_ ⟨hv_,hL_⟩; rw [hv_,hL_]; clear hv_ hL_ v_ L_) | refine ⟨_,x_spec (i := 0) hP rfl hx,?_⟩ | refine ⟨_,fun L0 hl0=>x_spec (i := 0) hP rfl hx,?_⟩ | (refine SCall.mono (y_spec (i := 0) hP rfl hy) ?_; rintro v_ L_ ⟨hv_,hL_⟩; rw [hv_,hL_]; clear hv_ hL_ v_ L_) | refine ⟨_,y_spec (i := 0) hP rfl hy,?_⟩ | refine ⟨_,fun L0 hl0=>y_spec (i := 0) hP rfl hy,?_⟩ | (refine SCall.mono (let_spec hP hx hg.V) ?_; rintro v_ L_ ⟨hv_,hL_⟩; rw [hv_,hL_]; clear hv_ hL_ v_ L_) | refine ⟨_,let_spec hP hx hg.V,?_⟩ | refine ⟨_,fun L0 hl0=>let_spec hP hx hg.V,?_⟩ | (refine SCall.mono (skip_spec hP) ?_; rintro v_ L_ ⟨hv_,hL_⟩; rw [hv_,hL_]; clear hv_ hL_ v_ L_) | refine ⟨_,skip_spec hP,?_⟩ | refine ⟨_,fun L0 hl0=>skip_spec hP,?_⟩ | (refine SCall.mono (flagged_spec hP hx hg.V) ?_; rintro v_ L_ ⟨hv_,hL_⟩; rw [hv_,hL_]; clear hv_ hL_ v_ L_) | refine ⟨_,flagged_spec hP hx hg.V,?_⟩ | refine ⟨_,fun L0 hl0=>flagged_spec hP hx hg.V,?_⟩ | (refine SCall.mono (truth_spec hP _) ?_; rintro v_ L_ ⟨hv_,hL_⟩; rw [hv_,hL_]; clear hv_ hL_ v_ L_) | refine ⟨_,truth_spec hP _,?_⟩ | refine ⟨_,fun L0 hl0=>truth_spec hP _,?_⟩ | (refine SCall.mono (down_spec (i := 0) hP rfl hx hg.Vb) ?_; rintro v_ L_ ⟨hv_,hL_⟩; rw [hv_,hL_]; clear hv_ hL_ v_ L_) | refine ⟨_,down_spec (i := 0) hP rfl hx hg.Vb,?_⟩ | refine ⟨_,fun L0 hl0=>down_spec (i := 0) hP rfl hx hg.Vb,?_⟩ | (refine SCall.mono (behind_spec hP hx) ?_; rintro v_ L_ ⟨hv_,hL_⟩; rw [hv_,hL_]; clear hv_ hL_ v_ L_) | refine ⟨_,behind_spec hP hx,?_⟩ | refine ⟨_,fun L0 hl0=>behind_spec hP hx,?_⟩ | refine And.intro (by omega) ?_ | fail); try refine stI ?_; try simp (dsimp:=false)(disch:=omega) only [go_sem,Φa,hP,hops])
 refine hK2 _ _ ?_
 try clear hK2 K2
 refine SX.seq_k fun K3 hK3=>?_
 refine SX.region_d [some 2] rfl (fun ops hops=>?_)
 unfold Dsts at hops
 simp (dsimp:=false)(disch:=omega) only [go_sem,Φa,hP,hops]
 repeat' ((first | refine ⟨_,Cell.at 0 rfl rfl,?_⟩ | refine ⟨0,_,_,_,rfl,(by rw [pcells_length]; omega),.inr (by first | decide | exact Nat.zero_le _),?_⟩ | fail); try refine stI ?_; try simp (dsimp:=false)(disch:=omega) only [go_sem,Φa,hP,hops])
 refine hK3 _ _ ?_
 try clear hK3 K3
 refine SX.ret ?_
 simp only [andThen_normal,andThen_ret,andThen_exit,inBlk_normal,inBlk_ret,inBlk_exit,Nat.reduceEqDiff,if_true,if_false,↓reduceIte,retQ_ret]
 try simp only [res0,res1,res2,res3,stK_e,go_sem,Φa,hP]
 exact ⟨_,_,Less.refl _,rfl,rfl,sv,pv,mv,q1,q2,q3,rfl,⟨hr.st,hr.pg,hr.mm⟩⟩
theorem add_spec {Γ : Ctx} (hP : Γ.P = Tryz.prog) {L : Hp} {gp : Nat} {g : GM} {sv pv mv : Value} {o : Ord} {f : Fnt} {fv : Value} {d : Feed} {q1 q2 q3 : Slot} (hg : OkG g) (hr : Rows g sv pv mv q1 q2 q3) (ho : OkO o) (hx : o.x < 16) (hy : o.y < 16) (hd : OkD d) :
  SCall Γ 43 #[(.pointer (some ⟨gp,0,none⟩))] (PS gp g sv pv mv o f fv d :: q1 :: q2 :: q3 :: L) (mres gp o f fv d L (letG g o (IntKind.u8.wrap (vG g o.x + (o.b : Int))))) := by
 have hbx := byte_at hg.Vb o.x
 have hby := byte_at hg.Vb o.y
 have hob := ho.b
 have hoa := ho.a
 have hox := ho.x
 have hPCb := hg.PC
 have hIb := hg.I
 have hrb := hd.rnd
 have hkb := hd.keys
 have hdl := hg.dl
 have hsd := hg.sd
 refine SCall.enter (n := 13) (res1 2) (hP ▸ Tryz.func43) rfl rfl (by simp) (res1_ok rfl) ?_
 refine SX.seq_k fun K1 hK1=>?_
 refine SX.region_d [some 2] rfl (fun ops hops=>?_)
 unfold Dsts at hops
 simp (dsimp:=false)(disch:=omega) only [go_sem,Φa,hP,hops]
 repeat' ((first | refine ⟨_,Cell.at 0 rfl rfl,?_⟩ | refine ⟨0,_,_,_,rfl,(by rw [pcells_length]; omega),.inr (by first | decide | exact Nat.zero_le _),?_⟩ | fail); try refine stI ?_; try simp (dsimp:=false)(disch:=omega) only [go_sem,Φa,hP,hops])
 refine hK1 _ _ ?_
 try clear hK1 K1
 refine SX.seq_k fun K2 hK2=>?_
 refine SX.drawn_d [(0,.q),(1,.q),(3,.q),(4,.q),(5,.q),(6,.q),(7,.q),(2,.e),(8,.q),(9,.t)] (fun L=>L) (hP ▸ T.mixed) (by kernel_rfl) (by exact Less.refl _) [some 3,some 4,some 5,some 6,some 7,some 8,some 9,some 10,some 11,some 12] rfl (fun ops hops hopl=>?_)
 unfold Dsts at hops
 simp (dsimp:=false)(disch:=omega) only [go_sem,Φa,hP,hops,hopl]
 repeat' ((first | refine ⟨_,Cell.at 0 rfl rfl,?_⟩ | refine ⟨0,_,_,_,rfl,(by rw [pcells_length]; omega),.inr (by first | decide | exact Nat.zero_le _),?_⟩ | (refine SCall.mono (x_spec (i := 0) hP rfl hx) ?_; rintro v_ L_ ⟨hv_,hL_⟩; rw [hv_,hL_]; clear hv_ hL_ v_ L_) | refine ⟨_,x_spec (i := 0) hP rfl hx,?_⟩ | refine ⟨_,fun L0 hl0=>x_spec (i := 0) hP rfl hx,?_⟩ | (refine SCall.mono (y_spec (i := 0) hP rfl hy) ?_; rintro v_ L_ ⟨hv_,hL_⟩; rw [hv_,hL_]; clear hv_ hL_ v_ L_) | refine ⟨_,y_spec (i := 0) hP rfl hy,?_⟩ | refine ⟨_,fun L0 hl0=>y_spec (i := 0) hP rfl hy,?_⟩ | (refine SCall.mono (let_spec hP hx hg.V) ?_; rintro v_ L_ ⟨hv_,hL_⟩; rw [hv_,hL_]; clear hv_ hL_ v_ L_) | refine ⟨_,let_spec hP hx hg.V,?_⟩ | refine ⟨_,fun L0 hl0=>let_spec hP hx hg.V,?_⟩ | (refine SCall.mono (skip_spec hP) ?_; rintro v_ L_ ⟨hv_,hL_⟩; rw [hv_,hL_]; clear hv_ hL_ v_ L_) | refine ⟨_,skip_spec hP,?_⟩ | refine ⟨_,fun L0 hl0=>skip_spec hP,?_⟩ | (refine SCall.mono (flagged_spec hP hx hg.V) ?_; rintro v_ L_ ⟨hv_,hL_⟩; rw [hv_,hL_]; clear hv_ hL_ v_ L_) | refine ⟨_,flagged_spec hP hx hg.V,?_⟩ | refine ⟨_,fun L0 hl0=>flagged_spec hP hx hg.V,?_⟩ | (refine SCall.mono (truth_spec hP _) ?_; rintro v_ L_ ⟨hv_,hL_⟩; rw [hv_,hL_]; clear hv_ hL_ v_ L_) | refine ⟨_,truth_spec hP _,?_⟩ | refine ⟨_,fun L0 hl0=>truth_spec hP _,?_⟩ | (refine SCall.mono (down_spec (i := 0) hP rfl hx hg.Vb) ?_; rintro v_ L_ ⟨hv_,hL_⟩; rw [hv_,hL_]; clear hv_ hL_ v_ L_) | refine ⟨_,down_spec (i := 0) hP rfl hx hg.Vb,?_⟩ | refine ⟨_,fun L0 hl0=>down_spec (i := 0) hP rfl hx hg.Vb,?_⟩ | (refine SCall.mono (behind_spec hP hx) ?_; rintro v_ L_ ⟨hv_,hL_⟩; rw [hv_,hL_]; clear hv_ hL_ v_ L_) | refine ⟨_,behind_spec hP hx,?_⟩ | refine ⟨_,fun L0 hl0=>behind_spec hP hx,?_⟩ | refine And.intro (by omega) ?_ | fail); try refine stI ?_; try simp (dsimp:=false)(disch:=omega) only [go_sem,Φa,hP,hops,hopl])
 refine hK2 _ _ ?_
 try clear hK2 K2
 refine SX.live [] (fun T1 hT1=>?_)
 clear hT1
 refine SX.seq_k fun K3 hK3=>?_
 refine SX.region_d [some 2] rfl (fun ops hops=>?_)
 unfold Dsts at hops
 simp (dsimp:=false)(disch:=omega) only [go_sem,Φa,hP,hops]
 repeat' ((first | refine ⟨_,Cell.at 0 rfl rfl,?_⟩ | refine ⟨0,_,_,_,rfl,(by rw [pcells_length]; omega),.inr (by first | decide | exact Nat.zero_le _),?_⟩ | fail); try refine stI ?_; try simp (dsimp:=false)(disch:=omega) only [go_sem,Φa,hP,hops])
 refine hK3 _ _ ?_
 try clear hK3 K3
 refine SX.ret ?_
 simp only [andThen_normal,andThen_ret,andThen_exit,inBlk_normal,inBlk_ret,inBlk_exit,Nat.reduceEqDiff,if_true,if_false,↓reduceIte,retQ_ret]
 try simp only [res0,res1,res2,res3,stK_e,go_sem,Φa,hP]
 exact ⟨_,_,Less.refl _,rfl,rfl,sv,pv,mv,q1,q2,q3,rfl,⟨hr.st,hr.pg,hr.mm⟩⟩
theorem move_spec {Γ : Ctx} (hP : Γ.P = Tryz.prog) {L : Hp} {gp : Nat} {g : GM} {sv pv mv : Value} {o : Ord} {f : Fnt} {fv : Value} {d : Feed} {q1 q2 q3 : Slot} (hg : OkG g) (hr : Rows g sv pv mv q1 q2 q3) (ho : OkO o) (hx : o.x < 16) (hy : o.y < 16) (hd : OkD d) :
  SCall Γ 44 #[(.pointer (some ⟨gp,0,none⟩))] (PS gp g sv pv mv o f fv d :: q1 :: q2 :: q3 :: L) (mres gp o f fv d L (letG g o (vG g o.y))) := by
 have hbx := byte_at hg.Vb o.x
 have hby := byte_at hg.Vb o.y
 have hob := ho.b
 have hoa := ho.a
 have hox := ho.x
 have hPCb := hg.PC
 have hIb := hg.I
 have hrb := hd.rnd
 have hkb := hd.keys
 have hdl := hg.dl
 have hsd := hg.sd
 refine SCall.enter (n := 7) (res1 2) (hP ▸ Tryz.func44) rfl rfl (by simp) (res1_ok rfl) ?_
 refine SX.seq_k fun K1 hK1=>?_
 refine SX.region_d [some 2] rfl (fun ops hops=>?_)
 unfold Dsts at hops
 simp (dsimp:=false)(disch:=omega) only [go_sem,Φa,hP,hops]
 repeat' ((first | refine ⟨_,Cell.at 0 rfl rfl,?_⟩ | refine ⟨0,_,_,_,rfl,(by rw [pcells_length]; omega),.inr (by first | decide | exact Nat.zero_le _),?_⟩ | fail); try refine stI ?_; try simp (dsimp:=false)(disch:=omega) only [go_sem,Φa,hP,hops])
 refine hK1 _ _ ?_
 try clear hK1 K1
 refine SX.seq_k fun K2 hK2=>?_
 refine SX.region_d [some 3,some 4,some 5,some 6] rfl (fun ops hops=>?_)
 unfold Dsts at hops
 simp (dsimp:=false)(disch:=omega) only [go_sem,Φa,hP,hops]
 repeat' ((first | refine ⟨_,Cell.at 0 rfl rfl,?_⟩ | refine ⟨0,_,_,_,rfl,(by rw [pcells_length]; omega),.inr (by first | decide | exact Nat.zero_le _),?_⟩ | (refine SCall.mono (x_spec (i := 0) hP rfl hx) ?_; rintro v_ L_ ⟨hv_,hL_⟩; rw [hv_,hL_]; clear hv_ hL_ v_ L_) | refine ⟨_,x_spec (i := 0) hP rfl hx,?_⟩ | refine ⟨_,fun L0 hl0=>x_spec (i := 0) hP rfl hx,?_⟩ | (refine SCall.mono (y_spec (i := 0) hP rfl hy) ?_; rintro v_ L_ ⟨hv_,hL_⟩; rw [hv_,hL_]; clear hv_ hL_ v_ L_) | refine ⟨_,y_spec (i := 0) hP rfl hy,?_⟩ | refine ⟨_,fun L0 hl0=>y_spec (i := 0) hP rfl hy,?_⟩ | (refine SCall.mono (let_spec hP hx hg.V) ?_; rintro v_ L_ ⟨hv_,hL_⟩; rw [hv_,hL_]; clear hv_ hL_ v_ L_) | refine ⟨_,let_spec hP hx hg.V,?_⟩ | refine ⟨_,fun L0 hl0=>let_spec hP hx hg.V,?_⟩ | (refine SCall.mono (skip_spec hP) ?_; rintro v_ L_ ⟨hv_,hL_⟩; rw [hv_,hL_]; clear hv_ hL_ v_ L_) | refine ⟨_,skip_spec hP,?_⟩ | refine ⟨_,fun L0 hl0=>skip_spec hP,?_⟩ | (refine SCall.mono (flagged_spec hP hx hg.V) ?_; rintro v_ L_ ⟨hv_,hL_⟩; rw [hv_,hL_]; clear hv_ hL_ v_ L_) | refine ⟨_,flagged_spec hP hx hg.V,?_⟩ | refine ⟨_,fun L0 hl0=>flagged_spec hP hx hg.V,?_⟩ | (refine SCall.mono (truth_spec hP _) ?_; rintro v_ L_ ⟨hv_,hL_⟩; rw [hv_,hL_]; clear hv_ hL_ v_ L_) | refine ⟨_,truth_spec hP _,?_⟩ | refine ⟨_,fun L0 hl0=>truth_spec hP _,?_⟩ | (refine SCall.mono (down_spec (i := 0) hP rfl hx hg.Vb) ?_; rintro v_ L_ ⟨hv_,hL_⟩; rw [hv_,hL_]; clear hv_ hL_ v_ L_) | refine ⟨_,down_spec (i := 0) hP rfl hx hg.Vb,?_⟩ | refine ⟨_,fun L0 hl0=>down_spec (i := 0) hP rfl hx hg.Vb,?_⟩ | (refine SCall.mono (behind_spec hP hx) ?_; rintro v_ L_ ⟨hv_,hL_⟩; rw [hv_,hL_]; clear hv_ hL_ v_ L_) | refine ⟨_,behind_spec hP hx,?_⟩ | refine ⟨_,fun L0 hl0=>behind_spec hP hx,?_⟩ | refine And.intro (by omega) ?_ | fail); try refine stI ?_; try simp (dsimp:=false)(disch:=omega) only [go_sem,Φa,hP,hops])
 refine hK2 _ _ ?_
 try clear hK2 K2
 refine SX.seq_k fun K3 hK3=>?_
 refine SX.region_d [some 2] rfl (fun ops hops=>?_)
 unfold Dsts at hops
 simp (dsimp:=false)(disch:=omega) only [go_sem,Φa,hP,hops]
 repeat' ((first | refine ⟨_,Cell.at 0 rfl rfl,?_⟩ | refine ⟨0,_,_,_,rfl,(by rw [pcells_length]; omega),.inr (by first | decide | exact Nat.zero_le _),?_⟩ | fail); try refine stI ?_; try simp (dsimp:=false)(disch:=omega) only [go_sem,Φa,hP,hops])
 refine hK3 _ _ ?_
 try clear hK3 K3
 refine SX.ret ?_
 simp only [andThen_normal,andThen_ret,andThen_exit,inBlk_normal,inBlk_ret,inBlk_exit,Nat.reduceEqDiff,if_true,if_false,↓reduceIte,retQ_ret]
 try simp only [res0,res1,res2,res3,stK_e,go_sem,Φa,hP]
 exact ⟨_,_,Less.refl _,rfl,rfl,sv,pv,mv,q1,q2,q3,rfl,⟨hr.st,hr.pg,hr.mm⟩⟩
theorem or_spec {Γ : Ctx} (hP : Γ.P = Tryz.prog) {L : Hp} {gp : Nat} {g : GM} {sv pv mv : Value} {o : Ord} {f : Fnt} {fv : Value} {d : Feed} {q1 q2 q3 : Slot} (hg : OkG g) (hr : Rows g sv pv mv q1 q2 q3) (ho : OkO o) (hx : o.x < 16) (hy : o.y < 16) (hd : OkD d) :
  SCall Γ 45 #[(.pointer (some ⟨gp,0,none⟩))] (PS gp g sv pv mv o f fv d :: q1 :: q2 :: q3 :: L) (mres gp o f fv d L (flagG g o (bits .or .u8 (vG g o.x) (vG g o.y)) 0)) := by
 have hbx := byte_at hg.Vb o.x
 have hby := byte_at hg.Vb o.y
 have hob := ho.b
 have hoa := ho.a
 have hox := ho.x
 have hPCb := hg.PC
 have hIb := hg.I
 have hrb := hd.rnd
 have hkb := hd.keys
 have hdl := hg.dl
 have hsd := hg.sd
 refine SCall.enter (n := 10) (res1 2) (hP ▸ Tryz.func45) rfl rfl (by simp) (res1_ok rfl) ?_
 refine SX.seq_k fun K1 hK1=>?_
 refine SX.region_d [some 2] rfl (fun ops hops=>?_)
 unfold Dsts at hops
 simp (dsimp:=false)(disch:=omega) only [go_sem,Φa,hP,hops]
 repeat' ((first | refine ⟨_,Cell.at 0 rfl rfl,?_⟩ | refine ⟨0,_,_,_,rfl,(by rw [pcells_length]; omega),.inr (by first | decide | exact Nat.zero_le _),?_⟩ | fail); try refine stI ?_; try simp (dsimp:=false)(disch:=omega) only [go_sem,Φa,hP,hops])
 refine hK1 _ _ ?_
 try clear hK1 K1
 refine SX.seq_k fun K2 hK2=>?_
 refine SX.region_d [some 3,some 4,some 5,some 6,some 7,some 8,some 9,some 2] rfl (fun ops hops=>?_)
 unfold Dsts at hops
 simp (dsimp:=false)(disch:=omega) only [go_sem,Φa,hP,hops]
 repeat' ((first | refine ⟨_,Cell.at 0 rfl rfl,?_⟩ | refine ⟨0,_,_,_,rfl,(by rw [pcells_length]; omega),.inr (by first | decide | exact Nat.zero_le _),?_⟩ | (refine SCall.mono (x_spec (i := 0) hP rfl hx) ?_; rintro v_ L_ ⟨hv_,hL_⟩; rw [hv_,hL_]; clear hv_ hL_ v_ L_) | refine ⟨_,x_spec (i := 0) hP rfl hx,?_⟩ | refine ⟨_,fun L0 hl0=>x_spec (i := 0) hP rfl hx,?_⟩ | (refine SCall.mono (y_spec (i := 0) hP rfl hy) ?_; rintro v_ L_ ⟨hv_,hL_⟩; rw [hv_,hL_]; clear hv_ hL_ v_ L_) | refine ⟨_,y_spec (i := 0) hP rfl hy,?_⟩ | refine ⟨_,fun L0 hl0=>y_spec (i := 0) hP rfl hy,?_⟩ | (refine SCall.mono (let_spec hP hx hg.V) ?_; rintro v_ L_ ⟨hv_,hL_⟩; rw [hv_,hL_]; clear hv_ hL_ v_ L_) | refine ⟨_,let_spec hP hx hg.V,?_⟩ | refine ⟨_,fun L0 hl0=>let_spec hP hx hg.V,?_⟩ | (refine SCall.mono (skip_spec hP) ?_; rintro v_ L_ ⟨hv_,hL_⟩; rw [hv_,hL_]; clear hv_ hL_ v_ L_) | refine ⟨_,skip_spec hP,?_⟩ | refine ⟨_,fun L0 hl0=>skip_spec hP,?_⟩ | (refine SCall.mono (flagged_spec hP hx hg.V) ?_; rintro v_ L_ ⟨hv_,hL_⟩; rw [hv_,hL_]; clear hv_ hL_ v_ L_) | refine ⟨_,flagged_spec hP hx hg.V,?_⟩ | refine ⟨_,fun L0 hl0=>flagged_spec hP hx hg.V,?_⟩ | (refine SCall.mono (truth_spec hP _) ?_; rintro v_ L_ ⟨hv_,hL_⟩; rw [hv_,hL_]; clear hv_ hL_ v_ L_) | refine ⟨_,truth_spec hP _,?_⟩ | refine ⟨_,fun L0 hl0=>truth_spec hP _,?_⟩ | (refine SCall.mono (down_spec (i := 0) hP rfl hx hg.Vb) ?_; rintro v_ L_ ⟨hv_,hL_⟩; rw [hv_,hL_]; clear hv_ hL_ v_ L_) | refine ⟨_,down_spec (i := 0) hP rfl hx hg.Vb,?_⟩ | refine ⟨_,fun L0 hl0=>down_spec (i := 0) hP rfl hx hg.Vb,?_⟩ | (refine SCall.mono (behind_spec hP hx) ?_; rintro v_ L_ ⟨hv_,hL_⟩; rw [hv_,hL_]; clear hv_ hL_ v_ L_) | refine ⟨_,behind_spec hP hx,?_⟩ | refine ⟨_,fun L0 hl0=>behind_spec hP hx,?_⟩ | refine And.intro (by omega) ?_ | fail); try refine stI ?_; try simp (dsimp:=false)(disch:=omega) only [go_sem,Φa,hP,hops])
 refine hK2 _ _ ?_
 try clear hK2 K2
 refine SX.ret ?_
 simp only [andThen_normal,andThen_ret,andThen_exit,inBlk_normal,inBlk_ret,inBlk_exit,Nat.reduceEqDiff,if_true,if_false,↓reduceIte,retQ_ret]
 try simp only [res0,res1,res2,res3,stK_e,go_sem,Φa,hP]
 exact ⟨_,_,Less.refl _,rfl,rfl,sv,pv,mv,q1,q2,q3,rfl,⟨hr.st,hr.pg,hr.mm⟩⟩
theorem and_spec {Γ : Ctx} (hP : Γ.P = Tryz.prog) {L : Hp} {gp : Nat} {g : GM} {sv pv mv : Value} {o : Ord} {f : Fnt} {fv : Value} {d : Feed} {q1 q2 q3 : Slot} (hg : OkG g) (hr : Rows g sv pv mv q1 q2 q3) (ho : OkO o) (hx : o.x < 16) (hy : o.y < 16) (hd : OkD d) :
  SCall Γ 46 #[(.pointer (some ⟨gp,0,none⟩))] (PS gp g sv pv mv o f fv d :: q1 :: q2 :: q3 :: L) (mres gp o f fv d L (flagG g o (bits .and .u8 (vG g o.x) (vG g o.y)) 0)) := by
 have hbx := byte_at hg.Vb o.x
 have hby := byte_at hg.Vb o.y
 have hob := ho.b
 have hoa := ho.a
 have hox := ho.x
 have hPCb := hg.PC
 have hIb := hg.I
 have hrb := hd.rnd
 have hkb := hd.keys
 have hdl := hg.dl
 have hsd := hg.sd
 refine SCall.enter (n := 10) (res1 2) (hP ▸ Tryz.func46) rfl rfl (by simp) (res1_ok rfl) ?_
 refine SX.seq_k fun K1 hK1=>?_
 refine SX.region_d [some 2] rfl (fun ops hops=>?_)
 unfold Dsts at hops
 simp (dsimp:=false)(disch:=omega) only [go_sem,Φa,hP,hops]
 repeat' ((first | refine ⟨_,Cell.at 0 rfl rfl,?_⟩ | refine ⟨0,_,_,_,rfl,(by rw [pcells_length]; omega),.inr (by first | decide | exact Nat.zero_le _),?_⟩ | fail); try refine stI ?_; try simp (dsimp:=false)(disch:=omega) only [go_sem,Φa,hP,hops])
 refine hK1 _ _ ?_
 try clear hK1 K1
 refine SX.seq_k fun K2 hK2=>?_
 refine SX.region_d [some 3,some 4,some 5,some 6,some 7,some 8,some 9,some 2] rfl (fun ops hops=>?_)
 unfold Dsts at hops
 simp (dsimp:=false)(disch:=omega) only [go_sem,Φa,hP,hops]
 repeat' ((first | refine ⟨_,Cell.at 0 rfl rfl,?_⟩ | refine ⟨0,_,_,_,rfl,(by rw [pcells_length]; omega),.inr (by first | decide | exact Nat.zero_le _),?_⟩ | (refine SCall.mono (x_spec (i := 0) hP rfl hx) ?_; rintro v_ L_ ⟨hv_,hL_⟩; rw [hv_,hL_]; clear hv_ hL_ v_ L_) | refine ⟨_,x_spec (i := 0) hP rfl hx,?_⟩ | refine ⟨_,fun L0 hl0=>x_spec (i := 0) hP rfl hx,?_⟩ | (refine SCall.mono (y_spec (i := 0) hP rfl hy) ?_; rintro v_ L_ ⟨hv_,hL_⟩; rw [hv_,hL_]; clear hv_ hL_ v_ L_) | refine ⟨_,y_spec (i := 0) hP rfl hy,?_⟩ | refine ⟨_,fun L0 hl0=>y_spec (i := 0) hP rfl hy,?_⟩ | (refine SCall.mono (let_spec hP hx hg.V) ?_; rintro v_ L_ ⟨hv_,hL_⟩; rw [hv_,hL_]; clear hv_ hL_ v_ L_) | refine ⟨_,let_spec hP hx hg.V,?_⟩ | refine ⟨_,fun L0 hl0=>let_spec hP hx hg.V,?_⟩ | (refine SCall.mono (skip_spec hP) ?_; rintro v_ L_ ⟨hv_,hL_⟩; rw [hv_,hL_]; clear hv_ hL_ v_ L_) | refine ⟨_,skip_spec hP,?_⟩ | refine ⟨_,fun L0 hl0=>skip_spec hP,?_⟩ | (refine SCall.mono (flagged_spec hP hx hg.V) ?_; rintro v_ L_ ⟨hv_,hL_⟩; rw [hv_,hL_]; clear hv_ hL_ v_ L_) | refine ⟨_,flagged_spec hP hx hg.V,?_⟩ | refine ⟨_,fun L0 hl0=>flagged_spec hP hx hg.V,?_⟩ | (refine SCall.mono (truth_spec hP _) ?_; rintro v_ L_ ⟨hv_,hL_⟩; rw [hv_,hL_]; clear hv_ hL_ v_ L_) | refine ⟨_,truth_spec hP _,?_⟩ | refine ⟨_,fun L0 hl0=>truth_spec hP _,?_⟩ | (refine SCall.mono (down_spec (i := 0) hP rfl hx hg.Vb) ?_; rintro v_ L_ ⟨hv_,hL_⟩; rw [hv_,hL_]; clear hv_ hL_ v_ L_) | refine ⟨_,down_spec (i := 0) hP rfl hx hg.Vb,?_⟩ | refine ⟨_,fun L0 hl0=>down_spec (i := 0) hP rfl hx hg.Vb,?_⟩ | (refine SCall.mono (behind_spec hP hx) ?_; rintro v_ L_ ⟨hv_,hL_⟩; rw [hv_,hL_]; clear hv_ hL_ v_ L_) | refine ⟨_,behind_spec hP hx,?_⟩ | refine ⟨_,fun L0 hl0=>behind_spec hP hx,?_⟩ | refine And.intro (by omega) ?_ | fail); try refine stI ?_; try simp (dsimp:=false)(disch:=omega) only [go_sem,Φa,hP,hops])
 refine hK2 _ _ ?_
 try clear hK2 K2
 refine SX.ret ?_
 simp only [andThen_normal,andThen_ret,andThen_exit,inBlk_normal,inBlk_ret,inBlk_exit,Nat.reduceEqDiff,if_true,if_false,↓reduceIte,retQ_ret]
 try simp only [res0,res1,res2,res3,stK_e,go_sem,Φa,hP]
 exact ⟨_,_,Less.refl _,rfl,rfl,sv,pv,mv,q1,q2,q3,rfl,⟨hr.st,hr.pg,hr.mm⟩⟩
theorem point_spec {Γ : Ctx} (hP : Γ.P = Tryz.prog) {L : Hp} {gp : Nat} {g : GM} {sv pv mv : Value} {o : Ord} {f : Fnt} {fv : Value} {d : Feed} {q1 q2 q3 : Slot} (hg : OkG g) (hr : Rows g sv pv mv q1 q2 q3) (ho : OkO o) (hx : o.x < 16) (hy : o.y < 16) (hd : OkD d) :
  SCall Γ 50 #[(.pointer (some ⟨gp,0,none⟩))] (PS gp g sv pv mv o f fv d :: q1 :: q2 :: q3 :: L) (mres gp o f fv d L (1,{ g with I := (o.a : Int) })) := by
 have hbx := byte_at hg.Vb o.x
 have hby := byte_at hg.Vb o.y
 have hob := ho.b
 have hoa := ho.a
 have hox := ho.x
 have hPCb := hg.PC
 have hIb := hg.I
 have hrb := hd.rnd
 have hkb := hd.keys
 have hdl := hg.dl
 have hsd := hg.sd
 refine SCall.enter (n := 12) (res1 2) (hP ▸ Tryz.func50) rfl rfl (by simp) (res1_ok rfl) ?_
 refine SX.seq_k fun K1 hK1=>?_
 refine SX.region_d [some 2] rfl (fun ops hops=>?_)
 unfold Dsts at hops
 simp (dsimp:=false)(disch:=omega) only [go_sem,Φa,hP,hops]
 repeat' ((first | refine ⟨_,Cell.at 0 rfl rfl,?_⟩ | refine ⟨0,_,_,_,rfl,(by rw [pcells_length]; omega),.inr (by first | decide | exact Nat.zero_le _),?_⟩ | fail); try refine stI ?_; try simp (dsimp:=false)(disch:=omega) only [go_sem,Φa,hP,hops])
 refine hK1 _ _ ?_
 try clear hK1 K1
 refine SX.seq_k fun K2 hK2=>?_
 refine SX.region_d [some 3,some 4,some 5,some 6,some 7,some 8,some 9,some 10,some 11,none] rfl (fun ops hops=>?_)
 unfold Dsts at hops
 simp (dsimp:=false)(disch:=omega) only [go_sem,Φa,hP,hops]
 repeat' ((first | refine ⟨_,Cell.at 0 rfl rfl,?_⟩ | refine ⟨0,_,_,_,rfl,(by rw [pcells_length]; omega),.inr (by first | decide | exact Nat.zero_le _),?_⟩ | fail); try refine stI ?_; try simp (dsimp:=false)(disch:=omega) only [go_sem,Φa,hP,hops])
 refine hK2 _ _ ?_
 try clear hK2 K2
 refine SX.live [] (fun T1 hT1=>?_)
 clear hT1
 refine SX.seq_k fun K3 hK3=>?_
 refine SX.region_d [some 2] rfl (fun ops hops=>?_)
 unfold Dsts at hops
 simp (dsimp:=false)(disch:=omega) only [go_sem,Φa,hP,hops]
 repeat' ((first | refine ⟨_,Cell.at 0 rfl rfl,?_⟩ | refine ⟨0,_,_,_,rfl,(by rw [pcells_length]; omega),.inr (by first | decide | exact Nat.zero_le _),?_⟩ | fail); try refine stI ?_; try simp (dsimp:=false)(disch:=omega) only [go_sem,Φa,hP,hops])
 refine hK3 _ _ ?_
 try clear hK3 K3
 refine SX.ret ?_
 simp only [andThen_normal,andThen_ret,andThen_exit,inBlk_normal,inBlk_ret,inBlk_exit,Nat.reduceEqDiff,if_true,if_false,↓reduceIte,retQ_ret]
 try simp only [res0,res1,res2,res3,stK_e,go_sem,Φa,hP]
 exact ⟨_,_,Less.refl _,rfl,rfl,sv,pv,mv,q1,q2,q3,rfl,⟨hr.st,hr.pg,hr.mm⟩⟩
theorem random_spec {Γ : Ctx} (hP : Γ.P = Tryz.prog) {L : Hp} {gp : Nat} {g : GM} {sv pv mv : Value} {o : Ord} {f : Fnt} {fv : Value} {d : Feed} {q1 q2 q3 : Slot} (hg : OkG g) (hr : Rows g sv pv mv q1 q2 q3) (ho : OkO o) (hx : o.x < 16) (hy : o.y < 16) (hd : OkD d) :
  SCall Γ 52 #[(.pointer (some ⟨gp,0,none⟩))] (PS gp g sv pv mv o f fv d :: q1 :: q2 :: q3 :: L) (mres gp o f fv d L (letG g o (bits .and .u8 d.rnd (o.b : Int)))) := by
 have hbx := byte_at hg.Vb o.x
 have hby := byte_at hg.Vb o.y
 have hob := ho.b
 have hoa := ho.a
 have hox := ho.x
 have hPCb := hg.PC
 have hIb := hg.I
 have hrb := hd.rnd
 have hkb := hd.keys
 have hdl := hg.dl
 have hsd := hg.sd
 refine SCall.enter (n := 16) (res1 2) (hP ▸ Tryz.func52) rfl rfl (by simp) (res1_ok rfl) ?_
 refine SX.seq_k fun K1 hK1=>?_
 refine SX.region_d [some 2] rfl (fun ops hops=>?_)
 unfold Dsts at hops
 simp (dsimp:=false)(disch:=omega) only [go_sem,Φa,hP,hops]
 repeat' ((first | refine ⟨_,Cell.at 0 rfl rfl,?_⟩ | refine ⟨0,_,_,_,rfl,(by rw [pcells_length]; omega),.inr (by first | decide | exact Nat.zero_le _),?_⟩ | fail); try refine stI ?_; try simp (dsimp:=false)(disch:=omega) only [go_sem,Φa,hP,hops])
 refine hK1 _ _ ?_
 try clear hK1 K1
 refine SX.seq_k fun K2 hK2=>?_
 refine SX.drawn_d [(0,.q),(1,.q),(2,.q),(3,.q),(4,.q),(5,.q),(6,.q),(7,.q),(8,.q),(9,.q),(10,.q),(11,.q),(12,.t)] (fun L=>L) (hP ▸ T.mixed) (by kernel_rfl) (by exact Less.refl _) [some 3,some 4,some 5,some 6,some 7,some 8,some 9,some 10,some 11,some 12,some 13,some 14,some 15] rfl (fun ops hops hopl=>?_)
 unfold Dsts at hops
 simp (dsimp:=false)(disch:=omega) only [go_sem,Φa,hP,hops,hopl]
 repeat' ((first | refine ⟨_,Cell.at 0 rfl rfl,?_⟩ | refine ⟨0,_,_,_,rfl,(by rw [pcells_length]; omega),.inr (by first | decide | exact Nat.zero_le _),?_⟩ | (refine SCall.mono (x_spec (i := 0) hP rfl hx) ?_; rintro v_ L_ ⟨hv_,hL_⟩; rw [hv_,hL_]; clear hv_ hL_ v_ L_) | refine ⟨_,x_spec (i := 0) hP rfl hx,?_⟩ | refine ⟨_,fun L0 hl0=>x_spec (i := 0) hP rfl hx,?_⟩ | (refine SCall.mono (y_spec (i := 0) hP rfl hy) ?_; rintro v_ L_ ⟨hv_,hL_⟩; rw [hv_,hL_]; clear hv_ hL_ v_ L_) | refine ⟨_,y_spec (i := 0) hP rfl hy,?_⟩ | refine ⟨_,fun L0 hl0=>y_spec (i := 0) hP rfl hy,?_⟩ | (refine SCall.mono (let_spec hP hx hg.V) ?_; rintro v_ L_ ⟨hv_,hL_⟩; rw [hv_,hL_]; clear hv_ hL_ v_ L_) | refine ⟨_,let_spec hP hx hg.V,?_⟩ | refine ⟨_,fun L0 hl0=>let_spec hP hx hg.V,?_⟩ | (refine SCall.mono (skip_spec hP) ?_; rintro v_ L_ ⟨hv_,hL_⟩; rw [hv_,hL_]; clear hv_ hL_ v_ L_) | refine ⟨_,skip_spec hP,?_⟩ | refine ⟨_,fun L0 hl0=>skip_spec hP,?_⟩ | (refine SCall.mono (flagged_spec hP hx hg.V) ?_; rintro v_ L_ ⟨hv_,hL_⟩; rw [hv_,hL_]; clear hv_ hL_ v_ L_) | refine ⟨_,flagged_spec hP hx hg.V,?_⟩ | refine ⟨_,fun L0 hl0=>flagged_spec hP hx hg.V,?_⟩ | (refine SCall.mono (truth_spec hP _) ?_; rintro v_ L_ ⟨hv_,hL_⟩; rw [hv_,hL_]; clear hv_ hL_ v_ L_) | refine ⟨_,truth_spec hP _,?_⟩ | refine ⟨_,fun L0 hl0=>truth_spec hP _,?_⟩ | (refine SCall.mono (down_spec (i := 0) hP rfl hx hg.Vb) ?_; rintro v_ L_ ⟨hv_,hL_⟩; rw [hv_,hL_]; clear hv_ hL_ v_ L_) | refine ⟨_,down_spec (i := 0) hP rfl hx hg.Vb,?_⟩ | refine ⟨_,fun L0 hl0=>down_spec (i := 0) hP rfl hx hg.Vb,?_⟩ | (refine SCall.mono (behind_spec hP hx) ?_; rintro v_ L_ ⟨hv_,hL_⟩; rw [hv_,hL_]; clear hv_ hL_ v_ L_) | refine ⟨_,behind_spec hP hx,?_⟩ | refine ⟨_,fun L0 hl0=>behind_spec hP hx,?_⟩ | refine And.intro (by omega) ?_ | fail); try refine stI ?_; try simp (dsimp:=false)(disch:=omega) only [go_sem,Φa,hP,hops,hopl])
 refine hK2 _ _ ?_
 try clear hK2 K2
 refine SX.live [] (fun T1 hT1=>?_)
 clear hT1
 refine SX.seq_k fun K3 hK3=>?_
 refine SX.region_d [some 2] rfl (fun ops hops=>?_)
 unfold Dsts at hops
 simp (dsimp:=false)(disch:=omega) only [go_sem,Φa,hP,hops]
 repeat' ((first | refine ⟨_,Cell.at 0 rfl rfl,?_⟩ | refine ⟨0,_,_,_,rfl,(by rw [pcells_length]; omega),.inr (by first | decide | exact Nat.zero_le _),?_⟩ | fail); try refine stI ?_; try simp (dsimp:=false)(disch:=omega) only [go_sem,Φa,hP,hops])
 refine hK3 _ _ ?_
 try clear hK3 K3
 refine SX.ret ?_
 simp only [andThen_normal,andThen_ret,andThen_exit,inBlk_normal,inBlk_ret,inBlk_exit,Nat.reduceEqDiff,if_true,if_false,↓reduceIte,retQ_ret]
 try simp only [res0,res1,res2,res3,stK_e,go_sem,Φa,hP]
 exact ⟨_,_,Less.refl _,rfl,rfl,sv,pv,mv,q1,q2,q3,rfl,⟨hr.st,hr.pg,hr.mm⟩⟩
theorem timer_spec {Γ : Ctx} (hP : Γ.P = Tryz.prog) {L : Hp} {gp : Nat} {g : GM} {sv pv mv : Value} {o : Ord} {f : Fnt} {fv : Value} {d : Feed} {q1 q2 q3 : Slot} (hg : OkG g) (hr : Rows g sv pv mv q1 q2 q3) (ho : OkO o) (hx : o.x < 16) (hy : o.y < 16) (hd : OkD d) :
  SCall Γ 56 #[(.pointer (some ⟨gp,0,none⟩))] (PS gp g sv pv mv o f fv d :: q1 :: q2 :: q3 :: L) (mres gp o f fv d L (letG g o g.dl)) := by
 have hbx := byte_at hg.Vb o.x
 have hby := byte_at hg.Vb o.y
 have hob := ho.b
 have hoa := ho.a
 have hox := ho.x
 have hPCb := hg.PC
 have hIb := hg.I
 have hrb := hd.rnd
 have hkb := hd.keys
 have hdl := hg.dl
 have hsd := hg.sd
 refine SCall.enter (n := 10) (res1 2) (hP ▸ Tryz.func56) rfl rfl (by simp) (res1_ok rfl) ?_
 refine SX.seq_k fun K1 hK1=>?_
 refine SX.region_d [some 2] rfl (fun ops hops=>?_)
 unfold Dsts at hops
 simp (dsimp:=false)(disch:=omega) only [go_sem,Φa,hP,hops]
 repeat' ((first | refine ⟨_,Cell.at 0 rfl rfl,?_⟩ | refine ⟨0,_,_,_,rfl,(by rw [pcells_length]; omega),.inr (by first | decide | exact Nat.zero_le _),?_⟩ | fail); try refine stI ?_; try simp (dsimp:=false)(disch:=omega) only [go_sem,Φa,hP,hops])
 refine hK1 _ _ ?_
 try clear hK1 K1
 refine SX.seq_k fun K2 hK2=>?_
 refine SX.region_d [some 3,some 4,some 5,some 6,some 7,some 8,some 9] rfl (fun ops hops=>?_)
 unfold Dsts at hops
 simp (dsimp:=false)(disch:=omega) only [go_sem,Φa,hP,hops]
 repeat' ((first | refine ⟨_,Cell.at 0 rfl rfl,?_⟩ | refine ⟨0,_,_,_,rfl,(by rw [pcells_length]; omega),.inr (by first | decide | exact Nat.zero_le _),?_⟩ | (refine SCall.mono (x_spec (i := 0) hP rfl hx) ?_; rintro v_ L_ ⟨hv_,hL_⟩; rw [hv_,hL_]; clear hv_ hL_ v_ L_) | refine ⟨_,x_spec (i := 0) hP rfl hx,?_⟩ | refine ⟨_,fun L0 hl0=>x_spec (i := 0) hP rfl hx,?_⟩ | (refine SCall.mono (y_spec (i := 0) hP rfl hy) ?_; rintro v_ L_ ⟨hv_,hL_⟩; rw [hv_,hL_]; clear hv_ hL_ v_ L_) | refine ⟨_,y_spec (i := 0) hP rfl hy,?_⟩ | refine ⟨_,fun L0 hl0=>y_spec (i := 0) hP rfl hy,?_⟩ | (refine SCall.mono (let_spec hP hx hg.V) ?_; rintro v_ L_ ⟨hv_,hL_⟩; rw [hv_,hL_]; clear hv_ hL_ v_ L_) | refine ⟨_,let_spec hP hx hg.V,?_⟩ | refine ⟨_,fun L0 hl0=>let_spec hP hx hg.V,?_⟩ | (refine SCall.mono (skip_spec hP) ?_; rintro v_ L_ ⟨hv_,hL_⟩; rw [hv_,hL_]; clear hv_ hL_ v_ L_) | refine ⟨_,skip_spec hP,?_⟩ | refine ⟨_,fun L0 hl0=>skip_spec hP,?_⟩ | (refine SCall.mono (flagged_spec hP hx hg.V) ?_; rintro v_ L_ ⟨hv_,hL_⟩; rw [hv_,hL_]; clear hv_ hL_ v_ L_) | refine ⟨_,flagged_spec hP hx hg.V,?_⟩ | refine ⟨_,fun L0 hl0=>flagged_spec hP hx hg.V,?_⟩ | (refine SCall.mono (truth_spec hP _) ?_; rintro v_ L_ ⟨hv_,hL_⟩; rw [hv_,hL_]; clear hv_ hL_ v_ L_) | refine ⟨_,truth_spec hP _,?_⟩ | refine ⟨_,fun L0 hl0=>truth_spec hP _,?_⟩ | (refine SCall.mono (down_spec (i := 0) hP rfl hx hg.Vb) ?_; rintro v_ L_ ⟨hv_,hL_⟩; rw [hv_,hL_]; clear hv_ hL_ v_ L_) | refine ⟨_,down_spec (i := 0) hP rfl hx hg.Vb,?_⟩ | refine ⟨_,fun L0 hl0=>down_spec (i := 0) hP rfl hx hg.Vb,?_⟩ | (refine SCall.mono (behind_spec hP hx) ?_; rintro v_ L_ ⟨hv_,hL_⟩; rw [hv_,hL_]; clear hv_ hL_ v_ L_) | refine ⟨_,behind_spec hP hx,?_⟩ | refine ⟨_,fun L0 hl0=>behind_spec hP hx,?_⟩ | refine And.intro (by omega) ?_ | fail); try refine stI ?_; try simp (dsimp:=false)(disch:=omega) only [go_sem,Φa,hP,hops])
 refine hK2 _ _ ?_
 try clear hK2 K2
 refine SX.seq_k fun K3 hK3=>?_
 refine SX.region_d [some 2] rfl (fun ops hops=>?_)
 unfold Dsts at hops
 simp (dsimp:=false)(disch:=omega) only [go_sem,Φa,hP,hops]
 repeat' ((first | refine ⟨_,Cell.at 0 rfl rfl,?_⟩ | refine ⟨0,_,_,_,rfl,(by rw [pcells_length]; omega),.inr (by first | decide | exact Nat.zero_le _),?_⟩ | fail); try refine stI ?_; try simp (dsimp:=false)(disch:=omega) only [go_sem,Φa,hP,hops])
 refine hK3 _ _ ?_
 try clear hK3 K3
 refine SX.ret ?_
 simp only [andThen_normal,andThen_ret,andThen_exit,inBlk_normal,inBlk_ret,inBlk_exit,Nat.reduceEqDiff,if_true,if_false,↓reduceIte,retQ_ret]
 try simp only [res0,res1,res2,res3,stK_e,go_sem,Φa,hP]
 exact ⟨_,_,Less.refl _,rfl,rfl,sv,pv,mv,q1,q2,q3,rfl,⟨hr.st,hr.pg,hr.mm⟩⟩
theorem delay_spec {Γ : Ctx} (hP : Γ.P = Tryz.prog) {L : Hp} {gp : Nat} {g : GM} {sv pv mv : Value} {o : Ord} {f : Fnt} {fv : Value} {d : Feed} {q1 q2 q3 : Slot} (hg : OkG g) (hr : Rows g sv pv mv q1 q2 q3) (ho : OkO o) (hx : o.x < 16) (hy : o.y < 16) (hd : OkD d) :
  SCall Γ 58 #[(.pointer (some ⟨gp,0,none⟩))] (PS gp g sv pv mv o f fv d :: q1 :: q2 :: q3 :: L) (mres gp o f fv d L (1,{ g with dl := vG g o.x })) := by
 have hbx := byte_at hg.Vb o.x
 have hby := byte_at hg.Vb o.y
 have hob := ho.b
 have hoa := ho.a
 have hox := ho.x
 have hPCb := hg.PC
 have hIb := hg.I
 have hrb := hd.rnd
 have hkb := hd.keys
 have hdl := hg.dl
 have hsd := hg.sd
 refine SCall.enter (n := 9) (res1 2) (hP ▸ Tryz.func58) rfl rfl (by simp) (res1_ok rfl) ?_
 refine SX.seq_k fun K1 hK1=>?_
 refine SX.region_d [some 2] rfl (fun ops hops=>?_)
 unfold Dsts at hops
 simp (dsimp:=false)(disch:=omega) only [go_sem,Φa,hP,hops]
 repeat' ((first | refine ⟨_,Cell.at 0 rfl rfl,?_⟩ | refine ⟨0,_,_,_,rfl,(by rw [pcells_length]; omega),.inr (by first | decide | exact Nat.zero_le _),?_⟩ | fail); try refine stI ?_; try simp (dsimp:=false)(disch:=omega) only [go_sem,Φa,hP,hops])
 refine hK1 _ _ ?_
 try clear hK1 K1
 refine SX.seq_k fun K2 hK2=>?_
 refine SX.region_d [some 3,some 4,some 5,some 6,some 7,some 8,none] rfl (fun ops hops=>?_)
 unfold Dsts at hops
 simp (dsimp:=false)(disch:=omega) only [go_sem,Φa,hP,hops]
 repeat' ((first | refine ⟨_,Cell.at 0 rfl rfl,?_⟩ | refine ⟨0,_,_,_,rfl,(by rw [pcells_length]; omega),.inr (by first | decide | exact Nat.zero_le _),?_⟩ | (refine SCall.mono (x_spec (i := 0) hP rfl hx) ?_; rintro v_ L_ ⟨hv_,hL_⟩; rw [hv_,hL_]; clear hv_ hL_ v_ L_) | refine ⟨_,x_spec (i := 0) hP rfl hx,?_⟩ | refine ⟨_,fun L0 hl0=>x_spec (i := 0) hP rfl hx,?_⟩ | (refine SCall.mono (y_spec (i := 0) hP rfl hy) ?_; rintro v_ L_ ⟨hv_,hL_⟩; rw [hv_,hL_]; clear hv_ hL_ v_ L_) | refine ⟨_,y_spec (i := 0) hP rfl hy,?_⟩ | refine ⟨_,fun L0 hl0=>y_spec (i := 0) hP rfl hy,?_⟩ | (refine SCall.mono (let_spec hP hx hg.V) ?_; rintro v_ L_ ⟨hv_,hL_⟩; rw [hv_,hL_]; clear hv_ hL_ v_ L_) | refine ⟨_,let_spec hP hx hg.V,?_⟩ | refine ⟨_,fun L0 hl0=>let_spec hP hx hg.V,?_⟩ | (refine SCall.mono (skip_spec hP) ?_; rintro v_ L_ ⟨hv_,hL_⟩; rw [hv_,hL_]; clear hv_ hL_ v_ L_) | refine ⟨_,skip_spec hP,?_⟩ | refine ⟨_,fun L0 hl0=>skip_spec hP,?_⟩ | (refine SCall.mono (flagged_spec hP hx hg.V) ?_; rintro v_ L_ ⟨hv_,hL_⟩; rw [hv_,hL_]; clear hv_ hL_ v_ L_) | refine ⟨_,flagged_spec hP hx hg.V,?_⟩ | refine ⟨_,fun L0 hl0=>flagged_spec hP hx hg.V,?_⟩ | (refine SCall.mono (truth_spec hP _) ?_; rintro v_ L_ ⟨hv_,hL_⟩; rw [hv_,hL_]; clear hv_ hL_ v_ L_) | refine ⟨_,truth_spec hP _,?_⟩ | refine ⟨_,fun L0 hl0=>truth_spec hP _,?_⟩ | (refine SCall.mono (down_spec (i := 0) hP rfl hx hg.Vb) ?_; rintro v_ L_ ⟨hv_,hL_⟩; rw [hv_,hL_]; clear hv_ hL_ v_ L_) | refine ⟨_,down_spec (i := 0) hP rfl hx hg.Vb,?_⟩ | refine ⟨_,fun L0 hl0=>down_spec (i := 0) hP rfl hx hg.Vb,?_⟩ | (refine SCall.mono (behind_spec hP hx) ?_; rintro v_ L_ ⟨hv_,hL_⟩; rw [hv_,hL_]; clear hv_ hL_ v_ L_) | refine ⟨_,behind_spec hP hx,?_⟩ | refine ⟨_,fun L0 hl0=>behind_spec hP hx,?_⟩ | refine And.intro (by omega) ?_ | fail); try refine stI ?_; try simp (dsimp:=false)(disch:=omega) only [go_sem,Φa,hP,hops])
 refine hK2 _ _ ?_
 try clear hK2 K2
 refine SX.seq_k fun K3 hK3=>?_
 refine SX.region_d [some 2] rfl (fun ops hops=>?_)
 unfold Dsts at hops
 simp (dsimp:=false)(disch:=omega) only [go_sem,Φa,hP,hops]
 repeat' ((first | refine ⟨_,Cell.at 0 rfl rfl,?_⟩ | refine ⟨0,_,_,_,rfl,(by rw [pcells_length]; omega),.inr (by first | decide | exact Nat.zero_le _),?_⟩ | fail); try refine stI ?_; try simp (dsimp:=false)(disch:=omega) only [go_sem,Φa,hP,hops])
 refine hK3 _ _ ?_
 try clear hK3 K3
 refine SX.ret ?_
 simp only [andThen_normal,andThen_ret,andThen_exit,inBlk_normal,inBlk_ret,inBlk_exit,Nat.reduceEqDiff,if_true,if_false,↓reduceIte,retQ_ret]
 try simp only [res0,res1,res2,res3,stK_e,go_sem,Φa,hP]
 exact ⟨_,_,Less.refl _,rfl,rfl,sv,pv,mv,q1,q2,q3,rfl,⟨hr.st,hr.pg,hr.mm⟩⟩
theorem sound_spec {Γ : Ctx} (hP : Γ.P = Tryz.prog) {L : Hp} {gp : Nat} {g : GM} {sv pv mv : Value} {o : Ord} {f : Fnt} {fv : Value} {d : Feed} {q1 q2 q3 : Slot} (hg : OkG g) (hr : Rows g sv pv mv q1 q2 q3) (ho : OkO o) (hx : o.x < 16) (hy : o.y < 16) (hd : OkD d) :
  SCall Γ 59 #[(.pointer (some ⟨gp,0,none⟩))] (PS gp g sv pv mv o f fv d :: q1 :: q2 :: q3 :: L) (mres gp o f fv d L (1,{ g with sd := vG g o.x })) := by
 have hbx := byte_at hg.Vb o.x
 have hby := byte_at hg.Vb o.y
 have hob := ho.b
 have hoa := ho.a
 have hox := ho.x
 have hPCb := hg.PC
 have hIb := hg.I
 have hrb := hd.rnd
 have hkb := hd.keys
 have hdl := hg.dl
 have hsd := hg.sd
 refine SCall.enter (n := 9) (res1 2) (hP ▸ Tryz.func59) rfl rfl (by simp) (res1_ok rfl) ?_
 refine SX.seq_k fun K1 hK1=>?_
 refine SX.region_d [some 2] rfl (fun ops hops=>?_)
 unfold Dsts at hops
 simp (dsimp:=false)(disch:=omega) only [go_sem,Φa,hP,hops]
 repeat' ((first | refine ⟨_,Cell.at 0 rfl rfl,?_⟩ | refine ⟨0,_,_,_,rfl,(by rw [pcells_length]; omega),.inr (by first | decide | exact Nat.zero_le _),?_⟩ | fail); try refine stI ?_; try simp (dsimp:=false)(disch:=omega) only [go_sem,Φa,hP,hops])
 refine hK1 _ _ ?_
 try clear hK1 K1
 refine SX.seq_k fun K2 hK2=>?_
 refine SX.region_d [some 3,some 4,some 5,some 6,some 7,some 8,none] rfl (fun ops hops=>?_)
 unfold Dsts at hops
 simp (dsimp:=false)(disch:=omega) only [go_sem,Φa,hP,hops]
 repeat' ((first | refine ⟨_,Cell.at 0 rfl rfl,?_⟩ | refine ⟨0,_,_,_,rfl,(by rw [pcells_length]; omega),.inr (by first | decide | exact Nat.zero_le _),?_⟩ | (refine SCall.mono (x_spec (i := 0) hP rfl hx) ?_; rintro v_ L_ ⟨hv_,hL_⟩; rw [hv_,hL_]; clear hv_ hL_ v_ L_) | refine ⟨_,x_spec (i := 0) hP rfl hx,?_⟩ | refine ⟨_,fun L0 hl0=>x_spec (i := 0) hP rfl hx,?_⟩ | (refine SCall.mono (y_spec (i := 0) hP rfl hy) ?_; rintro v_ L_ ⟨hv_,hL_⟩; rw [hv_,hL_]; clear hv_ hL_ v_ L_) | refine ⟨_,y_spec (i := 0) hP rfl hy,?_⟩ | refine ⟨_,fun L0 hl0=>y_spec (i := 0) hP rfl hy,?_⟩ | (refine SCall.mono (let_spec hP hx hg.V) ?_; rintro v_ L_ ⟨hv_,hL_⟩; rw [hv_,hL_]; clear hv_ hL_ v_ L_) | refine ⟨_,let_spec hP hx hg.V,?_⟩ | refine ⟨_,fun L0 hl0=>let_spec hP hx hg.V,?_⟩ | (refine SCall.mono (skip_spec hP) ?_; rintro v_ L_ ⟨hv_,hL_⟩; rw [hv_,hL_]; clear hv_ hL_ v_ L_) | refine ⟨_,skip_spec hP,?_⟩ | refine ⟨_,fun L0 hl0=>skip_spec hP,?_⟩ | (refine SCall.mono (flagged_spec hP hx hg.V) ?_; rintro v_ L_ ⟨hv_,hL_⟩; rw [hv_,hL_]; clear hv_ hL_ v_ L_) | refine ⟨_,flagged_spec hP hx hg.V,?_⟩ | refine ⟨_,fun L0 hl0=>flagged_spec hP hx hg.V,?_⟩ | (refine SCall.mono (truth_spec hP _) ?_; rintro v_ L_ ⟨hv_,hL_⟩; rw [hv_,hL_]; clear hv_ hL_ v_ L_) | refine ⟨_,truth_spec hP _,?_⟩ | refine ⟨_,fun L0 hl0=>truth_spec hP _,?_⟩ | (refine SCall.mono (down_spec (i := 0) hP rfl hx hg.Vb) ?_; rintro v_ L_ ⟨hv_,hL_⟩; rw [hv_,hL_]; clear hv_ hL_ v_ L_) | refine ⟨_,down_spec (i := 0) hP rfl hx hg.Vb,?_⟩ | refine ⟨_,fun L0 hl0=>down_spec (i := 0) hP rfl hx hg.Vb,?_⟩ | (refine SCall.mono (behind_spec hP hx) ?_; rintro v_ L_ ⟨hv_,hL_⟩; rw [hv_,hL_]; clear hv_ hL_ v_ L_) | refine ⟨_,behind_spec hP hx,?_⟩ | refine ⟨_,fun L0 hl0=>behind_spec hP hx,?_⟩ | refine And.intro (by omega) ?_ | fail); try refine stI ?_; try simp (dsimp:=false)(disch:=omega) only [go_sem,Φa,hP,hops])
 refine hK2 _ _ ?_
 try clear hK2 K2
 refine SX.seq_k fun K3 hK3=>?_
 refine SX.region_d [some 2] rfl (fun ops hops=>?_)
 unfold Dsts at hops
 simp (dsimp:=false)(disch:=omega) only [go_sem,Φa,hP,hops]
 repeat' ((first | refine ⟨_,Cell.at 0 rfl rfl,?_⟩ | refine ⟨0,_,_,_,rfl,(by rw [pcells_length]; omega),.inr (by first | decide | exact Nat.zero_le _),?_⟩ | fail); try refine stI ?_; try simp (dsimp:=false)(disch:=omega) only [go_sem,Φa,hP,hops])
 refine hK3 _ _ ?_
 try clear hK3 K3
 refine SX.ret ?_
 simp only [andThen_normal,andThen_ret,andThen_exit,inBlk_normal,inBlk_ret,inBlk_exit,Nat.reduceEqDiff,if_true,if_false,↓reduceIte,retQ_ret]
 try simp only [res0,res1,res2,res3,stK_e,go_sem,Φa,hP]
 exact ⟨_,_,Less.refl _,rfl,rfl,sv,pv,mv,q1,q2,q3,rfl,⟨hr.st,hr.pg,hr.mm⟩⟩


end Go.Proofs.YtgioegdjeodpiaaGreat
namespace Go.Proofs.YtgioegdjeodpiaaGreat
open Go.RowKit Go.SX
set_option maxHeartbeats 1000000
set_option maxRecDepth 100000

def plusG (g : GM) (o : Ord) : Int × GM := flagG g o (IntKind.u8.wrap (vG g o.x + vG g o.y)) (truthI (decide (255 < vG g o.x + vG g o.y)))
def minusG (g : GM) (o : Ord) : Int × GM := flagG g o (IntKind.u8.wrap (vG g o.x - vG g o.y)) (truthI (decide (vG g o.y ≤ vG g o.x)))
def keyG (g : GM) (o : Ord) (d : Feed) : Int × GM := if d.key < 0 then (2,g) else letG g o (IntKind.u8.wrap d.key)
def backG (g : GM) : Int × GM := if g.st.length = 0 then (6,g) else (1,{ g with PC := g.st.getD (g.st.length - 1) 0,st := g.st.take (g.st.length - 1) })
def callG (g : GM) (o : Ord) : Int × GM := if g.st.length = 12 then (5,g) else (1,{ g with st := g.st ++ [g.PC],PC := (o.a : Int) })
theorem plus_spec {Γ : Ctx} (hP : Γ.P = Tryz.prog) {L : Hp} {gp : Nat} {g : GM} {sv pv mv : Value} {o : Ord} {f : Fnt} {fv : Value} {d : Feed} {q1 q2 q3 : Slot} (hg : OkG g) (hr : Rows g sv pv mv q1 q2 q3) (ho : OkO o) (hx : o.x < 16) (hy : o.y < 16) (hd : OkD d) :
  SCall Γ 47 #[(.pointer (some ⟨gp,0,none⟩))] (PS gp g sv pv mv o f fv d :: q1 :: q2 :: q3 :: L) (mres gp o f fv d L (plusG g o)) := by
 have hbx := byte_at hg.Vb o.x
 have hby := byte_at hg.Vb o.y
 have hob := ho.b
 have hoa := ho.a
 have hox := ho.x
 have hPCb := hg.PC
 have hIb := hg.I
 have hrb := hd.rnd
 have hkb := hd.keys
 have hdl := hg.dl
 have hsd := hg.sd
 refine SCall.enter (n := 21) (res1 2) (hP ▸ Tryz.func47) rfl rfl (by simp) (res1_ok rfl) ?_
 refine SX.seq_k fun K1 hK1=>?_
 refine SX.region_d [some 2] rfl (fun ops hops=>?_)
 unfold Dsts at hops
 simp (dsimp:=false)(disch:=omega) only [go_sem,ia_someH,hP,hops]
 repeat' ((first | refine ⟨_,Cell.at 0 rfl rfl,?_⟩ | refine ⟨0,_,_,_,rfl,(by rw [pcells_length]; omega),.inr (by first | decide | exact Nat.zero_le _),?_⟩ | fail); try refine stI ?_; try simp (dsimp:=false)(disch:=omega) only [go_sem,ia_someH,hP,hops])
 refine hK1 _ _ ?_
 try clear hK1 K1
 refine SX.seq_k fun K2 hK2=>?_
 refine SX.region_d [some 5,some 6,some 7,some 8,some 3,some 4] rfl (fun ops hops=>?_)
 unfold Dsts at hops
 simp (dsimp:=false)(disch:=omega) only [go_sem,ia_someH,hP,hops]
 repeat' ((first | refine ⟨_,Cell.at 0 rfl rfl,?_⟩ | refine ⟨0,_,_,_,rfl,(by rw [pcells_length]; omega),.inr (by first | decide | exact Nat.zero_le _),?_⟩ | (refine SCall.mono (x_spec (i := 0) hP rfl hx) ?_; rintro v_ L_ ⟨hv_,hL_⟩; rw [hv_,hL_]; clear hv_ hL_ v_ L_) | refine ⟨_,x_spec (i := 0) hP rfl hx,?_⟩ | refine ⟨_,fun L0 hl0=>x_spec (i := 0) hP rfl hx,?_⟩ | (refine SCall.mono (y_spec (i := 0) hP rfl hy) ?_; rintro v_ L_ ⟨hv_,hL_⟩; rw [hv_,hL_]; clear hv_ hL_ v_ L_) | refine ⟨_,y_spec (i := 0) hP rfl hy,?_⟩ | refine ⟨_,fun L0 hl0=>y_spec (i := 0) hP rfl hy,?_⟩ | (refine SCall.mono (let_spec hP hx hg.V) ?_; rintro v_ L_ ⟨hv_,hL_⟩; rw [hv_,hL_]; clear hv_ hL_ v_ L_) | refine ⟨_,let_spec hP hx hg.V,?_⟩ | refine ⟨_,fun L0 hl0=>let_spec hP hx hg.V,?_⟩ | (refine SCall.mono (skip_spec hP) ?_; rintro v_ L_ ⟨hv_,hL_⟩; rw [hv_,hL_]; clear hv_ hL_ v_ L_) | refine ⟨_,skip_spec hP,?_⟩ | refine ⟨_,fun L0 hl0=>skip_spec hP,?_⟩ | (refine SCall.mono (flagged_spec hP hx hg.V) ?_; rintro v_ L_ ⟨hv_,hL_⟩; rw [hv_,hL_]; clear hv_ hL_ v_ L_) | refine ⟨_,flagged_spec hP hx hg.V,?_⟩ | refine ⟨_,fun L0 hl0=>flagged_spec hP hx hg.V,?_⟩ | (refine SCall.mono (truth_spec hP _) ?_; rintro v_ L_ ⟨hv_,hL_⟩; rw [hv_,hL_]; clear hv_ hL_ v_ L_) | refine ⟨_,truth_spec hP _,?_⟩ | refine ⟨_,fun L0 hl0=>truth_spec hP _,?_⟩ | (refine SCall.mono (down_spec (i := 0) hP rfl hx hg.Vb) ?_; rintro v_ L_ ⟨hv_,hL_⟩; rw [hv_,hL_]; clear hv_ hL_ v_ L_) | refine ⟨_,down_spec (i := 0) hP rfl hx hg.Vb,?_⟩ | refine ⟨_,fun L0 hl0=>down_spec (i := 0) hP rfl hx hg.Vb,?_⟩ | (refine SCall.mono (behind_spec hP hx) ?_; rintro v_ L_ ⟨hv_,hL_⟩; rw [hv_,hL_]; clear hv_ hL_ v_ L_) | refine ⟨_,behind_spec hP hx,?_⟩ | refine ⟨_,fun L0 hl0=>behind_spec hP hx,?_⟩ | refine And.intro (by omega) ?_ | fail); try refine stI ?_; try simp (dsimp:=false)(disch:=omega) only [go_sem,ia_someH,hP,hops])
 refine hK2 _ _ ?_
 try clear hK2 K2
 refine SX.seq_k fun K3 hK3=>?_
 refine SX.region_d [some 9,some 10,some 11,some 12,some 13,some 14,some 15,some 16,some 17,some 18,some 19,some 20,some 2] rfl (fun ops hops=>?_)
 unfold Dsts at hops
 simp (dsimp:=false)(disch:=omega) only [go_sem,ia_someH,hP,hops]
 repeat' ((first | refine ⟨_,Cell.at 0 rfl rfl,?_⟩ | refine ⟨0,_,_,_,rfl,(by rw [pcells_length]; omega),.inr (by first | decide | exact Nat.zero_le _),?_⟩ | (refine SCall.mono (x_spec (i := 0) hP rfl hx) ?_; rintro v_ L_ ⟨hv_,hL_⟩; rw [hv_,hL_]; clear hv_ hL_ v_ L_) | refine ⟨_,x_spec (i := 0) hP rfl hx,?_⟩ | refine ⟨_,fun L0 hl0=>x_spec (i := 0) hP rfl hx,?_⟩ | (refine SCall.mono (y_spec (i := 0) hP rfl hy) ?_; rintro v_ L_ ⟨hv_,hL_⟩; rw [hv_,hL_]; clear hv_ hL_ v_ L_) | refine ⟨_,y_spec (i := 0) hP rfl hy,?_⟩ | refine ⟨_,fun L0 hl0=>y_spec (i := 0) hP rfl hy,?_⟩ | (refine SCall.mono (let_spec hP hx hg.V) ?_; rintro v_ L_ ⟨hv_,hL_⟩; rw [hv_,hL_]; clear hv_ hL_ v_ L_) | refine ⟨_,let_spec hP hx hg.V,?_⟩ | refine ⟨_,fun L0 hl0=>let_spec hP hx hg.V,?_⟩ | (refine SCall.mono (skip_spec hP) ?_; rintro v_ L_ ⟨hv_,hL_⟩; rw [hv_,hL_]; clear hv_ hL_ v_ L_) | refine ⟨_,skip_spec hP,?_⟩ | refine ⟨_,fun L0 hl0=>skip_spec hP,?_⟩ | (refine SCall.mono (flagged_spec hP hx hg.V) ?_; rintro v_ L_ ⟨hv_,hL_⟩; rw [hv_,hL_]; clear hv_ hL_ v_ L_) | refine ⟨_,flagged_spec hP hx hg.V,?_⟩ | refine ⟨_,fun L0 hl0=>flagged_spec hP hx hg.V,?_⟩ | (refine SCall.mono (truth_spec hP _) ?_; rintro v_ L_ ⟨hv_,hL_⟩; rw [hv_,hL_]; clear hv_ hL_ v_ L_) | refine ⟨_,truth_spec hP _,?_⟩ | refine ⟨_,fun L0 hl0=>truth_spec hP _,?_⟩ | (refine SCall.mono (down_spec (i := 0) hP rfl hx hg.Vb) ?_; rintro v_ L_ ⟨hv_,hL_⟩; rw [hv_,hL_]; clear hv_ hL_ v_ L_) | refine ⟨_,down_spec (i := 0) hP rfl hx hg.Vb,?_⟩ | refine ⟨_,fun L0 hl0=>down_spec (i := 0) hP rfl hx hg.Vb,?_⟩ | (refine SCall.mono (behind_spec hP hx) ?_; rintro v_ L_ ⟨hv_,hL_⟩; rw [hv_,hL_]; clear hv_ hL_ v_ L_) | refine ⟨_,behind_spec hP hx,?_⟩ | refine ⟨_,fun L0 hl0=>behind_spec hP hx,?_⟩ | refine And.intro (by omega) ?_ | fail); try refine stI ?_; try simp (dsimp:=false)(disch:=omega) only [go_sem,ia_someH,hP,hops])
 refine hK3 _ _ ?_
 try clear hK3 K3
 refine SX.ret ?_
 simp only [andThen_normal,andThen_ret,andThen_exit,inBlk_normal,inBlk_ret,inBlk_exit,Nat.reduceEqDiff,if_true,if_false,↓reduceIte,retQ_ret]
 try simp only [res0,res1,res2,res3,stK_e,go_sem,ia_someH,hP]
 refine ⟨_,_,Less.refl _,rfl,rfl,sv,pv,mv,q1,q2,q3,?_,?_⟩
 ·unfold plusG flagG truthI vG; simp only [decide_eq_true_eq]
 exact ⟨hr.st,hr.pg,hr.mm⟩
theorem minus_spec {Γ : Ctx} (hP : Γ.P = Tryz.prog) {L : Hp} {gp : Nat} {g : GM} {sv pv mv : Value} {o : Ord} {f : Fnt} {fv : Value} {d : Feed} {q1 q2 q3 : Slot} (hg : OkG g) (hr : Rows g sv pv mv q1 q2 q3) (ho : OkO o) (hx : o.x < 16) (hy : o.y < 16) (hd : OkD d) :
  SCall Γ 48 #[(.pointer (some ⟨gp,0,none⟩))] (PS gp g sv pv mv o f fv d :: q1 :: q2 :: q3 :: L) (mres gp o f fv d L (minusG g o)) := by
 have hbx := byte_at hg.Vb o.x
 have hby := byte_at hg.Vb o.y
 have hob := ho.b
 have hoa := ho.a
 have hox := ho.x
 have hPCb := hg.PC
 have hIb := hg.I
 have hrb := hd.rnd
 have hkb := hd.keys
 have hdl := hg.dl
 have hsd := hg.sd
 refine SCall.enter (n := 18) (res1 2) (hP ▸ Tryz.func48) rfl rfl (by simp) (res1_ok rfl) ?_
 refine SX.seq_k fun K1 hK1=>?_
 refine SX.region_d [some 2] rfl (fun ops hops=>?_)
 unfold Dsts at hops
 simp (dsimp:=false)(disch:=omega) only [go_sem,ia_someH,hP,hops]
 repeat' ((first | refine ⟨_,Cell.at 0 rfl rfl,?_⟩ | refine ⟨0,_,_,_,rfl,(by rw [pcells_length]; omega),.inr (by first | decide | exact Nat.zero_le _),?_⟩ | fail); try refine stI ?_; try simp (dsimp:=false)(disch:=omega) only [go_sem,ia_someH,hP,hops])
 refine hK1 _ _ ?_
 try clear hK1 K1
 refine SX.seq_k fun K2 hK2=>?_
 refine SX.region_d [some 5,some 6,some 7,some 8,some 3,some 4] rfl (fun ops hops=>?_)
 unfold Dsts at hops
 simp (dsimp:=false)(disch:=omega) only [go_sem,ia_someH,hP,hops]
 repeat' ((first | refine ⟨_,Cell.at 0 rfl rfl,?_⟩ | refine ⟨0,_,_,_,rfl,(by rw [pcells_length]; omega),.inr (by first | decide | exact Nat.zero_le _),?_⟩ | (refine SCall.mono (x_spec (i := 0) hP rfl hx) ?_; rintro v_ L_ ⟨hv_,hL_⟩; rw [hv_,hL_]; clear hv_ hL_ v_ L_) | refine ⟨_,x_spec (i := 0) hP rfl hx,?_⟩ | refine ⟨_,fun L0 hl0=>x_spec (i := 0) hP rfl hx,?_⟩ | (refine SCall.mono (y_spec (i := 0) hP rfl hy) ?_; rintro v_ L_ ⟨hv_,hL_⟩; rw [hv_,hL_]; clear hv_ hL_ v_ L_) | refine ⟨_,y_spec (i := 0) hP rfl hy,?_⟩ | refine ⟨_,fun L0 hl0=>y_spec (i := 0) hP rfl hy,?_⟩ | (refine SCall.mono (let_spec hP hx hg.V) ?_; rintro v_ L_ ⟨hv_,hL_⟩; rw [hv_,hL_]; clear hv_ hL_ v_ L_) | refine ⟨_,let_spec hP hx hg.V,?_⟩ | refine ⟨_,fun L0 hl0=>let_spec hP hx hg.V,?_⟩ | (refine SCall.mono (skip_spec hP) ?_; rintro v_ L_ ⟨hv_,hL_⟩; rw [hv_,hL_]; clear hv_ hL_ v_ L_) | refine ⟨_,skip_spec hP,?_⟩ | refine ⟨_,fun L0 hl0=>skip_spec hP,?_⟩ | (refine SCall.mono (flagged_spec hP hx hg.V) ?_; rintro v_ L_ ⟨hv_,hL_⟩; rw [hv_,hL_]; clear hv_ hL_ v_ L_) | refine ⟨_,flagged_spec hP hx hg.V,?_⟩ | refine ⟨_,fun L0 hl0=>flagged_spec hP hx hg.V,?_⟩ | (refine SCall.mono (truth_spec hP _) ?_; rintro v_ L_ ⟨hv_,hL_⟩; rw [hv_,hL_]; clear hv_ hL_ v_ L_) | refine ⟨_,truth_spec hP _,?_⟩ | refine ⟨_,fun L0 hl0=>truth_spec hP _,?_⟩ | (refine SCall.mono (down_spec (i := 0) hP rfl hx hg.Vb) ?_; rintro v_ L_ ⟨hv_,hL_⟩; rw [hv_,hL_]; clear hv_ hL_ v_ L_) | refine ⟨_,down_spec (i := 0) hP rfl hx hg.Vb,?_⟩ | refine ⟨_,fun L0 hl0=>down_spec (i := 0) hP rfl hx hg.Vb,?_⟩ | (refine SCall.mono (behind_spec hP hx) ?_; rintro v_ L_ ⟨hv_,hL_⟩; rw [hv_,hL_]; clear hv_ hL_ v_ L_) | refine ⟨_,behind_spec hP hx,?_⟩ | refine ⟨_,fun L0 hl0=>behind_spec hP hx,?_⟩ | refine And.intro (by omega) ?_ | fail); try refine stI ?_; try simp (dsimp:=false)(disch:=omega) only [go_sem,ia_someH,hP,hops])
 refine hK2 _ _ ?_
 try clear hK2 K2
 refine SX.seq_k fun K3 hK3=>?_
 refine SX.region_d [some 9,some 10,some 11,some 12,some 13,some 14,some 15,some 16,some 17,some 2] rfl (fun ops hops=>?_)
 unfold Dsts at hops
 simp (dsimp:=false)(disch:=omega) only [go_sem,ia_someH,hP,hops]
 repeat' ((first | refine ⟨_,Cell.at 0 rfl rfl,?_⟩ | refine ⟨0,_,_,_,rfl,(by rw [pcells_length]; omega),.inr (by first | decide | exact Nat.zero_le _),?_⟩ | (refine SCall.mono (x_spec (i := 0) hP rfl hx) ?_; rintro v_ L_ ⟨hv_,hL_⟩; rw [hv_,hL_]; clear hv_ hL_ v_ L_) | refine ⟨_,x_spec (i := 0) hP rfl hx,?_⟩ | refine ⟨_,fun L0 hl0=>x_spec (i := 0) hP rfl hx,?_⟩ | (refine SCall.mono (y_spec (i := 0) hP rfl hy) ?_; rintro v_ L_ ⟨hv_,hL_⟩; rw [hv_,hL_]; clear hv_ hL_ v_ L_) | refine ⟨_,y_spec (i := 0) hP rfl hy,?_⟩ | refine ⟨_,fun L0 hl0=>y_spec (i := 0) hP rfl hy,?_⟩ | (refine SCall.mono (let_spec hP hx hg.V) ?_; rintro v_ L_ ⟨hv_,hL_⟩; rw [hv_,hL_]; clear hv_ hL_ v_ L_) | refine ⟨_,let_spec hP hx hg.V,?_⟩ | refine ⟨_,fun L0 hl0=>let_spec hP hx hg.V,?_⟩ | (refine SCall.mono (skip_spec hP) ?_; rintro v_ L_ ⟨hv_,hL_⟩; rw [hv_,hL_]; clear hv_ hL_ v_ L_) | refine ⟨_,skip_spec hP,?_⟩ | refine ⟨_,fun L0 hl0=>skip_spec hP,?_⟩ | (refine SCall.mono (flagged_spec hP hx hg.V) ?_; rintro v_ L_ ⟨hv_,hL_⟩; rw [hv_,hL_]; clear hv_ hL_ v_ L_) | refine ⟨_,flagged_spec hP hx hg.V,?_⟩ | refine ⟨_,fun L0 hl0=>flagged_spec hP hx hg.V,?_⟩ | (refine SCall.mono (truth_spec hP _) ?_; rintro v_ L_ ⟨hv_,hL_⟩; rw [hv_,hL_]; clear hv_ hL_ v_ L_) | refine ⟨_,truth_spec hP _,?_⟩ | refine ⟨_,fun L0 hl0=>truth_spec hP _,?_⟩ | (refine SCall.mono (down_spec (i := 0) hP rfl hx hg.Vb) ?_; rintro v_ L_ ⟨hv_,hL_⟩; rw [hv_,hL_]; clear hv_ hL_ v_ L_) | refine ⟨_,down_spec (i := 0) hP rfl hx hg.Vb,?_⟩ | refine ⟨_,fun L0 hl0=>down_spec (i := 0) hP rfl hx hg.Vb,?_⟩ | (refine SCall.mono (behind_spec hP hx) ?_; rintro v_ L_ ⟨hv_,hL_⟩; rw [hv_,hL_]; clear hv_ hL_ v_ L_) | refine ⟨_,behind_spec hP hx,?_⟩ | refine ⟨_,fun L0 hl0=>behind_spec hP hx,?_⟩ | refine And.intro (by omega) ?_ | fail); try refine stI ?_; try simp (dsimp:=false)(disch:=omega) only [go_sem,ia_someH,hP,hops])
 refine hK3 _ _ ?_
 try clear hK3 K3
 refine SX.ret ?_
 simp only [andThen_normal,andThen_ret,andThen_exit,inBlk_normal,inBlk_ret,inBlk_exit,Nat.reduceEqDiff,if_true,if_false,↓reduceIte,retQ_ret]
 try simp only [res0,res1,res2,res3,stK_e,go_sem,ia_someH,hP]
 refine ⟨_,_,Less.refl _,rfl,rfl,sv,pv,mv,q1,q2,q3,?_,?_⟩
 ·unfold minusG flagG truthI vG; simp only [decide_eq_true_eq]
 exact ⟨hr.st,hr.pg,hr.mm⟩
theorem jumpBy_spec {Γ : Ctx} (hP : Γ.P = Tryz.prog) {L : Hp} {gp : Nat} {g : GM} {sv pv mv : Value} {o : Ord} {f : Fnt} {fv : Value} {d : Feed} {q1 q2 q3 : Slot} (hg : OkG g) (hr : Rows g sv pv mv q1 q2 q3) (ho : OkO o) (hx : o.x < 16) (hy : o.y < 16) (hd : OkD d) :
  SCall Γ 51 #[(.pointer (some ⟨gp,0,none⟩))] (PS gp g sv pv mv o f fv d :: q1 :: q2 :: q3 :: L) (mres gp o f fv d L (1,{ g with PC := IntKind.u16.wrap ((o.a : Int) + vG g 0) })) := by
 have hbx := byte_at hg.Vb o.x
 have hby := byte_at hg.Vb o.y
 have hob := ho.b
 have hoa := ho.a
 have hox := ho.x
 have hPCb := hg.PC
 have hIb := hg.I
 have hrb := hd.rnd
 have hkb := hd.keys
 have hdl := hg.dl
 have hsd := hg.sd
 refine SCall.enter (n := 20) (res1 2) (hP ▸ Tryz.func51) rfl rfl (by simp) (res1_ok rfl) ?_
 refine SX.seq_k fun K1 hK1=>?_
 refine SX.region_d [some 2] rfl (fun ops hops=>?_)
 unfold Dsts at hops
 simp (dsimp:=false)(disch:=omega) only [go_sem,ia_someH,hP,hops]
 repeat' ((first | refine ⟨_,Cell.at 0 rfl rfl,?_⟩ | refine ⟨0,_,_,_,rfl,(by rw [pcells_length]; omega),.inr (by first | decide | exact Nat.zero_le _),?_⟩ | fail); try refine stI ?_; try simp (dsimp:=false)(disch:=omega) only [go_sem,ia_someH,hP,hops])
 refine hK1 _ _ ?_
 try clear hK1 K1
 refine SX.seq_k fun K2 hK2=>?_
 have hb0 := byte_at hg.Vb 0
 refine SX.drawn_d [(0,.q),(1,.q),(2,.q),(3,.q),(4,.q),(5,.q),(6,.q),(7,.q),(8,.q),(9,.q),(10,.q),(11,.q),(12,.q),(13,.q),(14,.q),(15,.q),(16,.q),(17,.t)] (fun L=>L) (hP ▸ T.mixed) (by kernel_rfl) (by exact Less.refl _) [some 3,some 4,some 5,some 6,some 7,some 8,some 9,some 10,some 11,some 12,some 13,some 14,some 15,some 16,some 17,some 18,some 19,none] rfl (fun ops hops hopl=>?_)
 unfold Dsts at hops
 simp (dsimp:=false)(disch:=omega) only [go_sem,ia_someH,hP,hops,hopl]
 repeat' ((first | refine ⟨_,Cell.at 0 rfl (pV (x := 0) (by decide)),?_⟩ | refine ⟨_,Cell.at 0 rfl rfl,?_⟩ | refine ⟨0,_,_,_,rfl,(by rw [pcells_length]; omega),.inr (by first | decide | exact Nat.zero_le _),?_⟩ | refine And.intro (by omega) ?_ | fail); try refine stI ?_; try simp (dsimp:=false)(disch:=omega) only [go_sem,ia_someH,hP,hops,hopl])
 refine hK2 _ _ ?_
 try clear hK2 K2
 refine SX.live [] (fun T1 hT1=>?_)
 clear hT1
 refine SX.seq_k fun K3 hK3=>?_
 refine SX.region_d [some 2] rfl (fun ops hops=>?_)
 unfold Dsts at hops
 simp (dsimp:=false)(disch:=omega) only [go_sem,ia_someH,hP,hops]
 repeat' ((first | refine ⟨_,Cell.at 0 rfl rfl,?_⟩ | refine ⟨0,_,_,_,rfl,(by rw [pcells_length]; omega),.inr (by first | decide | exact Nat.zero_le _),?_⟩ | fail); try refine stI ?_; try simp (dsimp:=false)(disch:=omega) only [go_sem,ia_someH,hP,hops])
 refine hK3 _ _ ?_
 try clear hK3 K3
 refine SX.ret ?_
 simp only [andThen_normal,andThen_ret,andThen_exit,inBlk_normal,inBlk_ret,inBlk_exit,Nat.reduceEqDiff,if_true,if_false,↓reduceIte,retQ_ret]
 try simp only [res0,res1,res2,res3,stK_e,go_sem,ia_someH,hP]
 exact ⟨_,_,Less.refl _,rfl,rfl,sv,pv,mv,q1,q2,q3,rfl,⟨hr.st,hr.pg,hr.mm⟩⟩
theorem on_spec {Γ : Ctx} (hP : Γ.P = Tryz.prog) {L : Hp} {gp : Nat} {g : GM} {sv pv mv : Value} {o : Ord} {f : Fnt} {fv : Value} {d : Feed} {q1 q2 q3 : Slot} (hg : OkG g) (hr : Rows g sv pv mv q1 q2 q3) (ho : OkO o) (hx : o.x < 16) (hy : o.y < 16) (hd : OkD d) :
  SCall Γ 60 #[(.pointer (some ⟨gp,0,none⟩))] (PS gp g sv pv mv o f fv d :: q1 :: q2 :: q3 :: L) (mres gp o f fv d L (1,{ g with I := IntKind.u16.wrap (g.I + vG g o.x) })) := by
 have hbx := byte_at hg.Vb o.x
 have hby := byte_at hg.Vb o.y
 have hob := ho.b
 have hoa := ho.a
 have hox := ho.x
 have hPCb := hg.PC
 have hIb := hg.I
 have hrb := hd.rnd
 have hkb := hd.keys
 have hdl := hg.dl
 have hsd := hg.sd
 refine SCall.enter (n := 15) (res1 2) (hP ▸ Tryz.func60) rfl rfl (by simp) (res1_ok rfl) ?_
 refine SX.seq_k fun K1 hK1=>?_
 refine SX.region_d [some 2] rfl (fun ops hops=>?_)
 unfold Dsts at hops
 simp (dsimp:=false)(disch:=omega) only [go_sem,ia_someH,hP,hops]
 repeat' ((first | refine ⟨_,Cell.at 0 rfl rfl,?_⟩ | refine ⟨0,_,_,_,rfl,(by rw [pcells_length]; omega),.inr (by first | decide | exact Nat.zero_le _),?_⟩ | fail); try refine stI ?_; try simp (dsimp:=false)(disch:=omega) only [go_sem,ia_someH,hP,hops])
 refine hK1 _ _ ?_
 try clear hK1 K1
 refine SX.seq_k fun K2 hK2=>?_
 refine SX.drawn_d [(0,.q),(1,.q),(2,.q),(3,.q),(4,.q),(5,.q),(6,.e),(7,.q),(8,.q),(9,.q),(10,.q),(11,.q),(12,.t)] (fun L=>L) (hP ▸ T.mixed) (by kernel_rfl) (by exact Less.refl _) [some 3,some 4,some 5,some 6,some 7,some 8,some 9,some 10,some 11,some 12,some 13,some 14,none] rfl (fun ops hops hopl=>?_)
 unfold Dsts at hops
 simp (dsimp:=false)(disch:=omega) only [go_sem,ia_someH,hP,hops,hopl]
 repeat' ((first | refine ⟨_,Cell.at 0 rfl rfl,?_⟩ | refine ⟨0,_,_,_,rfl,(by rw [pcells_length]; omega),.inr (by first | decide | exact Nat.zero_le _),?_⟩ | (refine SCall.mono (x_spec (i := 0) hP rfl hx) ?_; rintro v_ L_ ⟨hv_,hL_⟩; rw [hv_,hL_]; clear hv_ hL_ v_ L_) | refine ⟨_,x_spec (i := 0) hP rfl hx,?_⟩ | refine ⟨_,fun L0 hl0=>x_spec (i := 0) hP rfl hx,?_⟩ | (refine SCall.mono (y_spec (i := 0) hP rfl hy) ?_; rintro v_ L_ ⟨hv_,hL_⟩; rw [hv_,hL_]; clear hv_ hL_ v_ L_) | refine ⟨_,y_spec (i := 0) hP rfl hy,?_⟩ | refine ⟨_,fun L0 hl0=>y_spec (i := 0) hP rfl hy,?_⟩ | (refine SCall.mono (let_spec hP hx hg.V) ?_; rintro v_ L_ ⟨hv_,hL_⟩; rw [hv_,hL_]; clear hv_ hL_ v_ L_) | refine ⟨_,let_spec hP hx hg.V,?_⟩ | refine ⟨_,fun L0 hl0=>let_spec hP hx hg.V,?_⟩ | (refine SCall.mono (skip_spec hP) ?_; rintro v_ L_ ⟨hv_,hL_⟩; rw [hv_,hL_]; clear hv_ hL_ v_ L_) | refine ⟨_,skip_spec hP,?_⟩ | refine ⟨_,fun L0 hl0=>skip_spec hP,?_⟩ | (refine SCall.mono (flagged_spec hP hx hg.V) ?_; rintro v_ L_ ⟨hv_,hL_⟩; rw [hv_,hL_]; clear hv_ hL_ v_ L_) | refine ⟨_,flagged_spec hP hx hg.V,?_⟩ | refine ⟨_,fun L0 hl0=>flagged_spec hP hx hg.V,?_⟩ | (refine SCall.mono (truth_spec hP _) ?_; rintro v_ L_ ⟨hv_,hL_⟩; rw [hv_,hL_]; clear hv_ hL_ v_ L_) | refine ⟨_,truth_spec hP _,?_⟩ | refine ⟨_,fun L0 hl0=>truth_spec hP _,?_⟩ | (refine SCall.mono (down_spec (i := 0) hP rfl hx hg.Vb) ?_; rintro v_ L_ ⟨hv_,hL_⟩; rw [hv_,hL_]; clear hv_ hL_ v_ L_) | refine ⟨_,down_spec (i := 0) hP rfl hx hg.Vb,?_⟩ | refine ⟨_,fun L0 hl0=>down_spec (i := 0) hP rfl hx hg.Vb,?_⟩ | (refine SCall.mono (behind_spec hP hx) ?_; rintro v_ L_ ⟨hv_,hL_⟩; rw [hv_,hL_]; clear hv_ hL_ v_ L_) | refine ⟨_,behind_spec hP hx,?_⟩ | refine ⟨_,fun L0 hl0=>behind_spec hP hx,?_⟩ | refine And.intro (by omega) ?_ | fail); try refine stI ?_; try simp (dsimp:=false)(disch:=omega) only [go_sem,ia_someH,hP,hops,hopl])
 refine hK2 _ _ ?_
 try clear hK2 K2
 refine SX.live [] (fun T1 hT1=>?_)
 clear hT1
 refine SX.seq_k fun K3 hK3=>?_
 refine SX.region_d [some 2] rfl (fun ops hops=>?_)
 unfold Dsts at hops
 simp (dsimp:=false)(disch:=omega) only [go_sem,ia_someH,hP,hops]
 repeat' ((first | refine ⟨_,Cell.at 0 rfl rfl,?_⟩ | refine ⟨0,_,_,_,rfl,(by rw [pcells_length]; omega),.inr (by first | decide | exact Nat.zero_le _),?_⟩ | fail); try refine stI ?_; try simp (dsimp:=false)(disch:=omega) only [go_sem,ia_someH,hP,hops])
 refine hK3 _ _ ?_
 try clear hK3 K3
 refine SX.ret ?_
 simp only [andThen_normal,andThen_ret,andThen_exit,inBlk_normal,inBlk_ret,inBlk_exit,Nat.reduceEqDiff,if_true,if_false,↓reduceIte,retQ_ret]
 try simp only [res0,res1,res2,res3,stK_e,go_sem,ia_someH,hP]
 exact ⟨_,_,Less.refl _,rfl,rfl,sv,pv,mv,q1,q2,q3,rfl,⟨hr.st,hr.pg,hr.mm⟩⟩
theorem digit_spec {Γ : Ctx} (hP : Γ.P = Tryz.prog) {L : Hp} {gp : Nat} {g : GM} {sv pv mv : Value} {o : Ord} {f : Fnt} {fv : Value} {d : Feed} {q1 q2 q3 : Slot} (hg : OkG g) (hr : Rows g sv pv mv q1 q2 q3) (ho : OkO o) (hx : o.x < 16) (hy : o.y < 16) (hd : OkD d) :
  SCall Γ 61 #[(.pointer (some ⟨gp,0,none⟩))] (PS gp g sv pv mv o f fv d :: q1 :: q2 :: q3 :: L) (mres gp o f fv d L (1,{ g with I := f.at_.getD (vG g o.x % 16).toNat 0 })) := by
 have hbx := byte_at hg.Vb o.x
 have hby := byte_at hg.Vb o.y
 have hob := ho.b
 have hoa := ho.a
 have hox := ho.x
 have hPCb := hg.PC
 have hIb := hg.I
 have hrb := hd.rnd
 have hkb := hd.keys
 have hdl := hg.dl
 have hsd := hg.sd
 refine SCall.enter (n := 16) (res1 2) (hP ▸ Tryz.func61) rfl rfl (by simp) (res1_ok rfl) ?_
 refine SX.seq_k fun K1 hK1=>?_
 refine SX.region_d [some 2] rfl (fun ops hops=>?_)
 unfold Dsts at hops
 simp (dsimp:=false)(disch:=omega) only [go_sem,ia_someH,hP,hops]
 repeat' ((first | refine ⟨_,Cell.at 0 rfl rfl,?_⟩ | refine ⟨0,_,_,_,rfl,(by rw [pcells_length]; omega),.inr (by first | decide | exact Nat.zero_le _),?_⟩ | fail); try refine stI ?_; try simp (dsimp:=false)(disch:=omega) only [go_sem,ia_someH,hP,hops])
 refine hK1 _ _ ?_
 try clear hK1 K1
 refine SX.seq_k fun K2 hK2=>?_
 have h15 := u8_and15 (g.V.getD o.x 0) hbx.1 (by omega)
 have hm16 : (g.V.getD o.x 0 % 16).toNat < 16 := by omega
 refine SX.drawn_d [(0,.q),(1,.q),(2,.q),(5,.q),(6,.q),(7,.q),(3,.e),(4,.q),(8,.q),(9,.q),(10,.q),(11,.q),(12,.q),(13,.t)] (fun L=>L) (hP ▸ T.mixed) (by kernel_rfl) (by exact Less.refl _) [some 3,some 4,some 5,some 6,some 7,some 8,some 9,some 10,some 11,some 12,some 13,some 14,some 15,none] rfl (fun ops hops hopl=>?_)
 unfold Dsts at hops
 simp (dsimp:=false)(disch:=omega) only [go_sem,ia_someH,hP,hops,hopl,h15]
 repeat' ((first | refine ⟨_,Cell.at 0 rfl (pAt hm16),?_⟩ | refine ⟨_,Cell.at 0 rfl rfl,?_⟩ | refine ⟨0,_,_,_,rfl,(by rw [pcells_length]; omega),.inr (by first | decide | exact Nat.zero_le _),?_⟩ | (refine SCall.mono (x_spec (i := 0) hP rfl hx) ?_; rintro v_ L_ ⟨hv_,hL_⟩; rw [hv_,hL_]; clear hv_ hL_ v_ L_) | refine ⟨_,x_spec (i := 0) hP rfl hx,?_⟩ | refine ⟨_,fun L0 hl0=>x_spec (i := 0) hP rfl hx,?_⟩ | (refine SCall.mono (y_spec (i := 0) hP rfl hy) ?_; rintro v_ L_ ⟨hv_,hL_⟩; rw [hv_,hL_]; clear hv_ hL_ v_ L_) | refine ⟨_,y_spec (i := 0) hP rfl hy,?_⟩ | refine ⟨_,fun L0 hl0=>y_spec (i := 0) hP rfl hy,?_⟩ | (refine SCall.mono (let_spec hP hx hg.V) ?_; rintro v_ L_ ⟨hv_,hL_⟩; rw [hv_,hL_]; clear hv_ hL_ v_ L_) | refine ⟨_,let_spec hP hx hg.V,?_⟩ | refine ⟨_,fun L0 hl0=>let_spec hP hx hg.V,?_⟩ | (refine SCall.mono (skip_spec hP) ?_; rintro v_ L_ ⟨hv_,hL_⟩; rw [hv_,hL_]; clear hv_ hL_ v_ L_) | refine ⟨_,skip_spec hP,?_⟩ | refine ⟨_,fun L0 hl0=>skip_spec hP,?_⟩ | (refine SCall.mono (flagged_spec hP hx hg.V) ?_; rintro v_ L_ ⟨hv_,hL_⟩; rw [hv_,hL_]; clear hv_ hL_ v_ L_) | refine ⟨_,flagged_spec hP hx hg.V,?_⟩ | refine ⟨_,fun L0 hl0=>flagged_spec hP hx hg.V,?_⟩ | (refine SCall.mono (truth_spec hP _) ?_; rintro v_ L_ ⟨hv_,hL_⟩; rw [hv_,hL_]; clear hv_ hL_ v_ L_) | refine ⟨_,truth_spec hP _,?_⟩ | refine ⟨_,fun L0 hl0=>truth_spec hP _,?_⟩ | (refine SCall.mono (down_spec (i := 0) hP rfl hx hg.Vb) ?_; rintro v_ L_ ⟨hv_,hL_⟩; rw [hv_,hL_]; clear hv_ hL_ v_ L_) | refine ⟨_,down_spec (i := 0) hP rfl hx hg.Vb,?_⟩ | refine ⟨_,fun L0 hl0=>down_spec (i := 0) hP rfl hx hg.Vb,?_⟩ | (refine SCall.mono (behind_spec hP hx) ?_; rintro v_ L_ ⟨hv_,hL_⟩; rw [hv_,hL_]; clear hv_ hL_ v_ L_) | refine ⟨_,behind_spec hP hx,?_⟩ | refine ⟨_,fun L0 hl0=>behind_spec hP hx,?_⟩ | refine And.intro (by omega) ?_ | fail); try refine stI ?_; try simp (dsimp:=false)(disch:=omega) only [go_sem,ia_someH,hP,hops,hopl,h15])
 refine hK2 _ _ ?_
 try clear hK2 K2
 refine SX.live [] (fun T1 hT1=>?_)
 clear hT1
 refine SX.seq_k fun K3 hK3=>?_
 refine SX.region_d [some 2] rfl (fun ops hops=>?_)
 unfold Dsts at hops
 simp (dsimp:=false)(disch:=omega) only [go_sem,ia_someH,hP,hops]
 repeat' ((first | refine ⟨_,Cell.at 0 rfl rfl,?_⟩ | refine ⟨0,_,_,_,rfl,(by rw [pcells_length]; omega),.inr (by first | decide | exact Nat.zero_le _),?_⟩ | fail); try refine stI ?_; try simp (dsimp:=false)(disch:=omega) only [go_sem,ia_someH,hP,hops])
 refine hK3 _ _ ?_
 try clear hK3 K3
 refine SX.ret ?_
 simp only [andThen_normal,andThen_ret,andThen_exit,inBlk_normal,inBlk_ret,inBlk_exit,Nat.reduceEqDiff,if_true,if_false,↓reduceIte,retQ_ret]
 try simp only [res0,res1,res2,res3,stK_e,go_sem,ia_someH,hP]
 exact ⟨_,_,Less.refl _,rfl,rfl,sv,pv,mv,q1,q2,q3,rfl,⟨hr.st,hr.pg,hr.mm⟩⟩
theorem key_spec {Γ : Ctx} (hP : Γ.P = Tryz.prog) {L : Hp} {gp : Nat} {g : GM} {sv pv mv : Value} {o : Ord} {f : Fnt} {fv : Value} {d : Feed} {q1 q2 q3 : Slot} (hg : OkG g) (hr : Rows g sv pv mv q1 q2 q3) (ho : OkO o) (hx : o.x < 16) (hy : o.y < 16) (hd : OkD d) :
  SCall Γ 57 #[(.pointer (some ⟨gp,0,none⟩))] (PS gp g sv pv mv o f fv d :: q1 :: q2 :: q3 :: L) (mres gp o f fv d L (keyG g o d)) := by
 have hbx := byte_at hg.Vb o.x
 have hby := byte_at hg.Vb o.y
 have hob := ho.b
 have hoa := ho.a
 have hox := ho.x
 have hPCb := hg.PC
 have hIb := hg.I
 have hrb := hd.rnd
 have hkb := hd.keys
 have hdl := hg.dl
 have hsd := hg.sd
 refine SCall.enter (n := 17) (res1 2) (hP ▸ Tryz.func57) rfl rfl (by simp) (res1_ok rfl) ?_
 refine SX.seq_k fun K1 hK1=>?_
 refine SX.region_d [some 2] rfl (fun ops hops=>?_)
 unfold Dsts at hops
 simp (dsimp:=false)(disch:=omega) only [go_sem,ia_someH,hP,hops]
 repeat' ((first | refine ⟨_,Cell.at 0 rfl rfl,?_⟩ | refine ⟨0,_,_,_,rfl,(by rw [pcells_length]; omega),.inr (by first | decide | exact Nat.zero_le _),?_⟩ | fail); try refine stI ?_; try simp (dsimp:=false)(disch:=omega) only [go_sem,ia_someH,hP,hops])
 refine hK1 _ _ ?_
 try clear hK1 K1
 refine SX.seq_k fun K2 hK2=>?_
 refine SX.seq_k fun K3 hK3=>?_
 refine SX.region_d [some 3,some 4,some 5,some 6,some 7,some 8] rfl (fun ops hops=>?_)
 unfold Dsts at hops
 simp (dsimp:=false)(disch:=omega) only [go_sem,ia_someH,hP,hops]
 repeat' ((first | refine ⟨_,Cell.at 0 rfl rfl,?_⟩ | refine ⟨0,_,_,_,rfl,(by rw [pcells_length]; omega),.inr (by first | decide | exact Nat.zero_le _),?_⟩ | refine And.intro (by omega) ?_ | fail); try refine stI ?_; try simp (dsimp:=false)(disch:=omega) only [go_sem,ia_someH,hP,hops])
 refine hK3 _ _ ?_
 try clear hK3 K3
 refine SX.cond_k fun X4 Y4 hX4 hY4=>?_
 simp (dsimp:=false)(disch:=omega) only [go_sem,ia_someH,hP,condVC]
 refine ⟨fun hc8=>hX4 ?_,fun hc8=>hY4 ?_⟩
 ·clear hX4 hY4 X4 Y4
  refine SX.seq_k fun K5 hK5=>?_
  refine SX.region_d [some 2] rfl (fun ops hops=>?_)
  unfold Dsts at hops
  simp (dsimp:=false)(disch:=omega) only [go_sem,ia_someH,hP,hops]
  repeat' ((first | refine ⟨_,Cell.at 0 rfl rfl,?_⟩ | refine ⟨0,_,_,_,rfl,(by rw [pcells_length]; omega),.inr (by first | decide | exact Nat.zero_le _),?_⟩ | fail); try refine stI ?_; try simp (dsimp:=false)(disch:=omega) only [go_sem,ia_someH,hP,hops])
  refine hK5 _ _ ?_
  try clear hK5 K5
  refine SX.ret ?_
  simp only [andThen_normal,andThen_ret,andThen_exit,inBlk_normal,inBlk_ret,inBlk_exit,Nat.reduceEqDiff,if_true,if_false,↓reduceIte,retQ_ret]
  try simp only [res0,res1,res2,res3,stK_e,go_sem,ia_someH,hP]
  refine ⟨_,_,Less.refl _,rfl,?_⟩
  unfold keyG
  rw [if_pos (by first | exact hc7 | omega)]
  exact ⟨rfl,sv,pv,mv,q1,q2,q3,rfl,hr⟩
 clear hX4 hY4 X4 Y4
 refine SX.skip ?_
 try simp only [andThen_normal,andThen_ret,andThen_exit,inBlk_normal,inBlk_ret,inBlk_exit,Nat.reduceEqDiff,if_true,if_false,↓reduceIte]
 refine hK2 _ _ ?_
 try clear hK2 K2
 refine SX.seq_k fun K6 hK6=>?_
 refine SX.region_d [some 9,some 10,some 11,some 12,some 13,some 14,some 15,some 16] rfl (fun ops hops=>?_)
 unfold Dsts at hops
 simp (dsimp:=false)(disch:=omega) only [go_sem,ia_someH,hP,hops]
 repeat' ((first | refine ⟨_,Cell.at 0 rfl rfl,?_⟩ | refine ⟨0,_,_,_,rfl,(by rw [pcells_length]; omega),.inr (by first | decide | exact Nat.zero_le _),?_⟩ | (refine SCall.mono (x_spec (i := 0) hP rfl hx) ?_; rintro v_ L_ ⟨hv_,hL_⟩; rw [hv_,hL_]; clear hv_ hL_ v_ L_) | refine ⟨_,x_spec (i := 0) hP rfl hx,?_⟩ | refine ⟨_,fun L0 hl0=>x_spec (i := 0) hP rfl hx,?_⟩ | (refine SCall.mono (y_spec (i := 0) hP rfl hy) ?_; rintro v_ L_ ⟨hv_,hL_⟩; rw [hv_,hL_]; clear hv_ hL_ v_ L_) | refine ⟨_,y_spec (i := 0) hP rfl hy,?_⟩ | refine ⟨_,fun L0 hl0=>y_spec (i := 0) hP rfl hy,?_⟩ | (refine SCall.mono (let_spec hP hx hg.V) ?_; rintro v_ L_ ⟨hv_,hL_⟩; rw [hv_,hL_]; clear hv_ hL_ v_ L_) | refine ⟨_,let_spec hP hx hg.V,?_⟩ | refine ⟨_,fun L0 hl0=>let_spec hP hx hg.V,?_⟩ | (refine SCall.mono (skip_spec hP) ?_; rintro v_ L_ ⟨hv_,hL_⟩; rw [hv_,hL_]; clear hv_ hL_ v_ L_) | refine ⟨_,skip_spec hP,?_⟩ | refine ⟨_,fun L0 hl0=>skip_spec hP,?_⟩ | (refine SCall.mono (flagged_spec hP hx hg.V) ?_; rintro v_ L_ ⟨hv_,hL_⟩; rw [hv_,hL_]; clear hv_ hL_ v_ L_) | refine ⟨_,flagged_spec hP hx hg.V,?_⟩ | refine ⟨_,fun L0 hl0=>flagged_spec hP hx hg.V,?_⟩ | (refine SCall.mono (truth_spec hP _) ?_; rintro v_ L_ ⟨hv_,hL_⟩; rw [hv_,hL_]; clear hv_ hL_ v_ L_) | refine ⟨_,truth_spec hP _,?_⟩ | refine ⟨_,fun L0 hl0=>truth_spec hP _,?_⟩ | (refine SCall.mono (down_spec (i := 0) hP rfl hx hg.Vb) ?_; rintro v_ L_ ⟨hv_,hL_⟩; rw [hv_,hL_]; clear hv_ hL_ v_ L_) | refine ⟨_,down_spec (i := 0) hP rfl hx hg.Vb,?_⟩ | refine ⟨_,fun L0 hl0=>down_spec (i := 0) hP rfl hx hg.Vb,?_⟩ | (refine SCall.mono (behind_spec hP hx) ?_; rintro v_ L_ ⟨hv_,hL_⟩; rw [hv_,hL_]; clear hv_ hL_ v_ L_) | refine ⟨_,behind_spec hP hx,?_⟩ | refine ⟨_,fun L0 hl0=>behind_spec hP hx,?_⟩ | refine And.intro (by omega) ?_ | fail); try refine stI ?_; try simp (dsimp:=false)(disch:=omega) only [go_sem,ia_someH,hP,hops])
 refine hK6 _ _ ?_
 try clear hK6 K6
 refine SX.live [] (fun T1 hT1=>?_)
 clear hT1
 refine SX.seq_k fun K7 hK7=>?_
 refine SX.region_d [some 2] rfl (fun ops hops=>?_)
 unfold Dsts at hops
 simp (dsimp:=false)(disch:=omega) only [go_sem,ia_someH,hP,hops]
 repeat' ((first | refine ⟨_,Cell.at 0 rfl rfl,?_⟩ | refine ⟨0,_,_,_,rfl,(by rw [pcells_length]; omega),.inr (by first | decide | exact Nat.zero_le _),?_⟩ | fail); try refine stI ?_; try simp (dsimp:=false)(disch:=omega) only [go_sem,ia_someH,hP,hops])
 refine hK7 _ _ ?_
 try clear hK7 K7
 refine SX.ret ?_
 simp only [andThen_normal,andThen_ret,andThen_exit,inBlk_normal,inBlk_ret,inBlk_exit,Nat.reduceEqDiff,if_true,if_false,↓reduceIte,retQ_ret]
 try simp only [res0,res1,res2,res3,stK_e,go_sem,ia_someH,hP]
 refine ⟨_,_,Less.refl _,rfl,?_⟩
 unfold keyG
 rw [if_neg (by first | exact hc7 | omega)]
 exact ⟨rfl,sv,pv,mv,q1,q2,q3,rfl,⟨hr.st,hr.pg,hr.mm⟩⟩


end Go.Proofs.YtgioegdjeodpiaaGreat
namespace Go.Proofs.YtgioegdjeodpiaaGreat
open Go.RowKit Go.SX
open Go.SX renaming ia_someH → Φa
set_option maxHeartbeats 1000000
set_option maxRecDepth 100000

theorem lessPut (p : Slot) (i : Nat) (L : Hp) : Less (p :: L) (L.set i p) := fun _ _ h=>h.put i
theorem rowMade (k : IntKind) (e b n : Nat) (hb : n ≤ 9223372036854775807) : RowI k e (.slice (some ⟨b,0,none⟩) (List.replicate n (0 : Int)).length n) (List.replicate n 0) (some (b,.cells (zerosV [.int k 0] n).toArray e (0,0))) := by
 have h : zerosV [.int k 0] n = ints k (List.replicate n 0) ++ [] := by simp [zerosV,ints]
 exact ⟨by rw [ints_length,Nat.mul_one],.inr ⟨b,n,[],rfl,by rw [h],⟨by simp,hb⟩,by simp [ints_length]⟩⟩
theorem rowShape {k : IntKind} {e : Nat} {v : Value} {l : List Int} {s : Slot} (h : RowI k e v l s) : ∃ A c,v = .slice A l.length c ∧ l.length ≤ c := by
 rcases h with ⟨_,⟨rfl,hn,_⟩ | ⟨r,cap,junk,rfl,_,h3,_⟩⟩
 ·exact ⟨none,0,by rw [hn],by omega⟩
 exact ⟨_,_,rfl,h3.1⟩
theorem takeSplit {k : IntKind} {l : List Int} {n : Nat} {js : List Value} : ints k l ++ js = ints k (l.take n) ++ (ints k (l.drop n) ++ js) := by rw [← List.append_assoc,← ints_app,List.take_append_drop]
theorem slTake {Γ : Ctx} {L : Hp} {k : IntKind} {xs : List Int} {js : List Value} {b n c : Nat} {e : TypeId} {fr : Nat × Nat} (i : Nat) (hL : L[i]? = some (some (b,.cells (ints k xs ++ js).toArray e fr))) (hn : n ≤ xs.length) (hc : n ≤ c) : SlI k (Cell Γ L) (.slice (some ⟨b,0,none⟩) n c) (xs.take n) :=
 SlI.row i (by rw [hL,takeSplit (n := n)]) (by simp; omega) hc
theorem lessOne (p : Slot) : ∀ L : Hp,Less (p :: L) [p]
 | []=>Less.refl _
 | q :: L=>(lessPut p 0 (q :: L)).trans (lessOne p L)
def cloneR (k : IntKind) (e : Nat) (L : Hp) (l : List Int) (v : Value) (L' : Hp) : Prop := ∃ s,L' = s :: L ∧ RowI k e v l s
theorem rowEmpty (k : IntKind) (e b : Nat) : RowI k e (.slice (some ⟨b,0,none⟩) 0 0) [] (some (b,.cells #[] e (0,0))) := ⟨rfl,.inr ⟨b,0,[],rfl,rfl,⟨Nat.le_refl _,by decide⟩,rfl⟩⟩
theorem wd_app {l : List Int} (h : Wd l) {x : Int} (hx : 0 ≤ x ∧ x ≤ 65535) : Wd (l ++ [x]) := fun y hy=>by
 rcases List.mem_append.1 hy with h1 | h1
 ·exact h y h1
 rw [List.mem_singleton.1 h1]; exact hx
theorem cloneW_spec {Γ : Ctx} (hP : Γ.P = Tryz.prog) {L : Hp} {v : Value} {l : List Int} (hx : SlI .u16 (Cell Γ L) v l) (hl : l.length ≤ 1000000) :
  SCall Γ 30 #[v] L (cloneR .u16 23 L l) := by
 obtain ⟨A,c,rfl,hc,hA⟩ := id hx
 refine SCall.enter (n := 8) (res1 2) (hP ▸ Tryz.func30) rfl rfl (by simp) (res1_ok rfl) ?_
 refine SX.seq_k fun K1 hK1=>?_
 refine SX.region_d [some 2] rfl (fun ops hops=>?_)
 unfold Dsts at hops
 simp (dsimp:=false)(disch:=omega) only [go_sem,Φa,hP,hops]
 refine hK1 _ _ ?_
 try clear hK1 K1
 refine SX.seq_k fun K2 hK2=>?_
 refine SX.seq_k fun K3 hK3=>?_
 refine SX.region_d [some 3,some 4] rfl (fun ops hops=>?_)
 unfold Dsts at hops
 simp (dsimp:=false)(disch:=omega) only [go_sem,Φa,hP,hops]
 repeat' ((first | refine And.intro (by omega) ?_ | fail); try refine stI ?_; try simp (dsimp:=false)(disch:=omega) only [go_sem,Φa,hP,hops])
 refine hK3 _ _ ?_
 try clear hK3 K3
 refine SX.cond_k fun X4 Y4 hX4 hY4=>?_
 simp (dsimp:=false)(disch:=omega) only [go_sem,Φa,hP,condVC]
 refine ⟨fun hc4=>hX4 ?_,fun hc4=>hY4 ?_⟩
 ·clear hX4 hY4 X4 Y4
  refine SX.seq_k fun K5 hK5=>?_
  refine SX.region_d [some 2] rfl (fun ops hops=>?_)
  unfold Dsts at hops
  simp (dsimp:=false)(disch:=omega) only [go_sem,Φa,hP,hops]
  refine hK5 _ _ ?_
  try clear hK5 K5
  refine SX.ret ?_
  simp only [andThen_normal,andThen_ret,andThen_exit,inBlk_normal,inBlk_ret,inBlk_exit,Nat.reduceEqDiff,if_true,if_false,↓reduceIte,retQ_ret]
  try simp only [res0,res1,res2,res3,stK_e,go_sem,Φa,hP]
  rcases A with _ | A
  ·obtain rfl : l = [] := by
    cases l with
    | nil=>rfl
    | cons x xs =>
     obtain ⟨a,h,_⟩ := hA 0 x rfl
     cases h
   exact ⟨_,_,Less.none _,rfl,none,rfl,RowI.nil _ _⟩
  exact absurd hc4 (by simp)
 clear hX4 hY4 X4 Y4
 refine SX.skip ?_
 try simp only [andThen_normal,andThen_ret,andThen_exit,inBlk_normal,inBlk_ret,inBlk_exit,Nat.reduceEqDiff,if_true,if_false,↓reduceIte]
 refine hK2 _ _ ?_
 try clear hK2 K2
 refine SX.seq_k fun K6 hK6=>?_
 rcases A with _ | A
 ·exact absurd hc4 (by simp)
 refine SX.region_d [some 5,some 6,some 7,some 2] rfl (fun ops hops=>?_)
 unfold Dsts at hops
 simp (dsimp:=false)(disch:=omega) only [go_sem,Φa,hP,hops]
 intro bb
 try refine stI ?_
 try simp (dsimp:=false)(disch:=omega) only [go_sem,Φa,hP,hops]
 refine YAppend.ints (i := 0) (hP ▸ T.elS_24) (hP ▸ T.zr_23) rfl rfl (rowEmpty .u16 23 bb) (SlI.cons _ hx) (by simp; omega) (by decide) (fun v_ s_ hr_=>?_)
 try refine stI ?_
 try simp (dsimp:=false)(disch:=omega) only [go_sem,Φa,hP,hops]
 refine hK6 _ _ ?_
 try clear hK6 K6
 refine SX.ret ?_
 simp only [andThen_normal,andThen_ret,andThen_exit,inBlk_normal,inBlk_ret,inBlk_exit,Nat.reduceEqDiff,if_true,if_false,↓reduceIte,retQ_ret]
 try simp only [res0,res1,res2,res3,stK_e,go_sem,Φa,hP]
 exact ⟨_,_,Less.refl _,rfl,s_,rfl,hr_⟩
theorem cloneB_spec {Γ : Ctx} (hP : Γ.P = Tryz.prog) {L : Hp} {v : Value} {l : List Int} (hx : SlI .u8 (Cell Γ L) v l) (hl : l.length ≤ 1000000) :
  SCall Γ 31 #[v] L (cloneR .u8 5 L l) := by
 obtain ⟨A,c,rfl,hc,hA⟩ := id hx
 refine SCall.enter (n := 8) (res1 2) (hP ▸ Tryz.func31) rfl rfl (by simp) (res1_ok rfl) ?_
 refine SX.seq_k fun K1 hK1=>?_
 refine SX.region_d [some 2] rfl (fun ops hops=>?_)
 unfold Dsts at hops
 simp (dsimp:=false)(disch:=omega) only [go_sem,Φa,hP,hops]
 refine hK1 _ _ ?_
 try clear hK1 K1
 refine SX.seq_k fun K2 hK2=>?_
 refine SX.seq_k fun K3 hK3=>?_
 refine SX.region_d [some 3,some 4] rfl (fun ops hops=>?_)
 unfold Dsts at hops
 simp (dsimp:=false)(disch:=omega) only [go_sem,Φa,hP,hops]
 repeat' ((first | refine And.intro (by omega) ?_ | fail); try refine stI ?_; try simp (dsimp:=false)(disch:=omega) only [go_sem,Φa,hP,hops])
 refine hK3 _ _ ?_
 try clear hK3 K3
 refine SX.cond_k fun X4 Y4 hX4 hY4=>?_
 simp (dsimp:=false)(disch:=omega) only [go_sem,Φa,hP,condVC]
 refine ⟨fun hc4=>hX4 ?_,fun hc4=>hY4 ?_⟩
 ·clear hX4 hY4 X4 Y4
  refine SX.seq_k fun K5 hK5=>?_
  refine SX.region_d [some 2] rfl (fun ops hops=>?_)
  unfold Dsts at hops
  simp (dsimp:=false)(disch:=omega) only [go_sem,Φa,hP,hops]
  refine hK5 _ _ ?_
  try clear hK5 K5
  refine SX.ret ?_
  simp only [andThen_normal,andThen_ret,andThen_exit,inBlk_normal,inBlk_ret,inBlk_exit,Nat.reduceEqDiff,if_true,if_false,↓reduceIte,retQ_ret]
  try simp only [res0,res1,res2,res3,stK_e,go_sem,Φa,hP]
  rcases A with _ | A
  ·obtain rfl : l = [] := by
    cases l with
    | nil=>rfl
    | cons x xs =>
     obtain ⟨a,h,_⟩ := hA 0 x rfl
     cases h
   exact ⟨_,_,Less.none _,rfl,none,rfl,RowI.nil _ _⟩
  exact absurd hc4 (by simp)
 clear hX4 hY4 X4 Y4
 refine SX.skip ?_
 try simp only [andThen_normal,andThen_ret,andThen_exit,inBlk_normal,inBlk_ret,inBlk_exit,Nat.reduceEqDiff,if_true,if_false,↓reduceIte]
 refine hK2 _ _ ?_
 try clear hK2 K2
 refine SX.seq_k fun K6 hK6=>?_
 rcases A with _ | A
 ·exact absurd hc4 (by simp)
 refine SX.region_d [some 5,some 6,some 7,some 2] rfl (fun ops hops=>?_)
 unfold Dsts at hops
 simp (dsimp:=false)(disch:=omega) only [go_sem,Φa,hP,hops]
 intro bb
 try refine stI ?_
 try simp (dsimp:=false)(disch:=omega) only [go_sem,Φa,hP,hops]
 refine YAppend.ints (i := 0) (hP ▸ T.elS_25) (hP ▸ T.zr_5) rfl rfl (rowEmpty .u8 5 bb) (SlI.cons _ hx) (by simp; omega) (by decide) (fun v_ s_ hr_=>?_)
 try refine stI ?_
 try simp (dsimp:=false)(disch:=omega) only [go_sem,Φa,hP,hops]
 refine hK6 _ _ ?_
 try clear hK6 K6
 refine SX.ret ?_
 simp only [andThen_normal,andThen_ret,andThen_exit,inBlk_normal,inBlk_ret,inBlk_exit,Nat.reduceEqDiff,if_true,if_false,↓reduceIte,retQ_ret]
 try simp only [res0,res1,res2,res3,stK_e,go_sem,Φa,hP]
 exact ⟨_,_,Less.refl _,rfl,s_,rfl,hr_⟩
theorem clear_spec {Γ : Ctx} (hP : Γ.P = Tryz.prog) {L : Hp} {gp : Nat} {g : GM} {sv pv mv : Value} {o : Ord} {f : Fnt} {fv : Value} {d : Feed} {q1 q2 q3 : Slot} (hg : OkG g) (hr : Rows g sv pv mv q1 q2 q3) (ho : OkO o) (hx : o.x < 16) (hy : o.y < 16) (hd : OkD d) :
  SCall Γ 35 #[(.pointer (some ⟨gp,0,none⟩))] (PS gp g sv pv mv o f fv d :: q1 :: q2 :: q3 :: L) (mres gp o f fv d L (1,{ g with pg := List.replicate 256 0 })) := by
 have hbx := byte_at hg.Vb o.x
 have hby := byte_at hg.Vb o.y
 have hob := ho.b
 have hoa := ho.a
 have hox := ho.x
 have hPCb := hg.PC
 have hIb := hg.I
 have hrb := hd.rnd
 have hkb := hd.keys
 have hdl := hg.dl
 have hsd := hg.sd
 refine SCall.enter (n := 8) (res1 2) (hP ▸ Tryz.func35) rfl rfl (by simp) (res1_ok rfl) ?_
 refine SX.seq_k fun K1 hK1=>?_
 refine SX.region_d [some 2] rfl (fun ops hops=>?_)
 unfold Dsts at hops
 simp (dsimp:=false)(disch:=omega) only [go_sem,Φa,hP,hops]
 repeat' ((first | refine ⟨_,Cell.at 0 rfl rfl,?_⟩ | refine ⟨0,_,_,_,rfl,(by rw [pcells_length]; omega),.inr (by first | decide | exact Nat.zero_le _),?_⟩ | fail); try refine stI ?_; try simp (dsimp:=false)(disch:=omega) only [go_sem,Φa,hP,hops])
 refine hK1 _ _ ?_
 try clear hK1 K1
 refine SX.seq_k fun K2 hK2=>?_
 refine SX.region_d [some 3,some 4,some 5,some 6,some 7,none] rfl (fun ops hops=>?_)
 unfold Dsts at hops
 simp (dsimp:=false)(disch:=omega) only [go_sem,Φa,hP,hops]
 intro bb
 try refine stI ?_
 try simp (dsimp:=false)(disch:=omega) only [go_sem,Φa,hP,hops]
 refine ⟨1,_,_,_,rfl,(by rw [pcells_length]; omega),.inr (by decide),?_⟩
 try refine stI ?_
 try simp (dsimp:=false)(disch:=omega) only [go_sem,Φa,hP,hops]
 refine hK2 _ _ ?_
 try clear hK2 K2
 refine SX.seq_k fun K3 hK3=>?_
 refine SX.region_d [some 2] rfl (fun ops hops=>?_)
 unfold Dsts at hops
 simp (dsimp:=false)(disch:=omega) only [go_sem,Φa,hP,hops]
 repeat' ((first | refine ⟨_,Cell.at 0 rfl rfl,?_⟩ | refine ⟨0,_,_,_,rfl,(by rw [pcells_length]; omega),.inr (by first | decide | exact Nat.zero_le _),?_⟩ | fail); try refine stI ?_; try simp (dsimp:=false)(disch:=omega) only [go_sem,Φa,hP,hops])
 refine hK3 _ _ ?_
 try clear hK3 K3
 refine SX.ret ?_
 simp only [andThen_normal,andThen_ret,andThen_exit,inBlk_normal,inBlk_ret,inBlk_exit,Nat.reduceEqDiff,if_true,if_false,↓reduceIte,retQ_ret]
 try simp only [res0,res1,res2,res3,stK_e,go_sem,Φa,hP]
 refine ⟨_,_,lessPut _ 2 _,rfl,rfl,sv,_,mv,q1,_,q3,rfl,⟨hr.st,rowMade .u8 5 bb 256 (by decide),hr.mm⟩⟩
theorem back_spec {Γ : Ctx} (hP : Γ.P = Tryz.prog) {L : Hp} {gp : Nat} {g : GM} {sv pv mv : Value} {o : Ord} {f : Fnt} {fv : Value} {d : Feed} {q1 q2 q3 : Slot} (hg : OkG g) (hr : Rows g sv pv mv q1 q2 q3) (ho : OkO o) (hx : o.x < 16) (hy : o.y < 16) (hd : OkD d) (hst : g.st.length ≤ 12) :
  SCall Γ 36 #[(.pointer (some ⟨gp,0,none⟩))] (PS gp g sv pv mv o f fv d :: q1 :: q2 :: q3 :: L) (mres gp o f fv d L (backG g)) := by
 have hbx := byte_at hg.Vb o.x
 have hby := byte_at hg.Vb o.y
 have hob := ho.b
 have hoa := ho.a
 have hox := ho.x
 have hPCb := hg.PC
 have hIb := hg.I
 have hrb := hd.rnd
 have hkb := hd.keys
 have hdl := hg.dl
 have hsd := hg.sd
 obtain ⟨sb,scap,rfl,hsc⟩ := rowShape hr.st
 refine SCall.enter (n := 38) (res1 2) (hP ▸ Tryz.func36) rfl rfl (by simp) (res1_ok rfl) ?_
 refine SX.seq_k fun K1 hK1=>?_
 refine SX.region_d [some 2] rfl (fun ops hops=>?_)
 unfold Dsts at hops
 simp (dsimp:=false)(disch:=omega) only [go_sem,Φa,hP,hops]
 repeat' ((first | refine ⟨_,Cell.at 0 rfl rfl,?_⟩ | refine ⟨0,_,_,_,rfl,(by rw [pcells_length]; omega),.inr (by first | decide | exact Nat.zero_le _),?_⟩ | fail); try refine stI ?_; try simp (dsimp:=false)(disch:=omega) only [go_sem,Φa,hP,hops])
 refine hK1 _ _ ?_
 try clear hK1 K1
 refine SX.seq_k fun K2 hK2=>?_
 refine SX.region_d [some 4,some 5,some 6,some 7,some 8,some 9,some 3] rfl (fun ops hops=>?_)
 unfold Dsts at hops
 simp (dsimp:=false)(disch:=omega) only [go_sem,Φa,hP,hops]
 repeat' ((first | refine ⟨_,Cell.at 0 rfl rfl,?_⟩ | refine ⟨0,_,_,_,rfl,(by rw [pcells_length]; omega),.inr (by first | decide | exact Nat.zero_le _),?_⟩ | (refine SCall.mono (x_spec (i := 0) hP rfl hx) ?_; rintro v_ L_ ⟨hv_,hL_⟩; rw [hv_,hL_]; clear hv_ hL_ v_ L_) | refine ⟨_,x_spec (i := 0) hP rfl hx,?_⟩ | refine ⟨_,fun L0 hl0=>x_spec (i := 0) hP rfl hx,?_⟩ | (refine SCall.mono (y_spec (i := 0) hP rfl hy) ?_; rintro v_ L_ ⟨hv_,hL_⟩; rw [hv_,hL_]; clear hv_ hL_ v_ L_) | refine ⟨_,y_spec (i := 0) hP rfl hy,?_⟩ | refine ⟨_,fun L0 hl0=>y_spec (i := 0) hP rfl hy,?_⟩ | (refine SCall.mono (let_spec hP hx hg.V) ?_; rintro v_ L_ ⟨hv_,hL_⟩; rw [hv_,hL_]; clear hv_ hL_ v_ L_) | refine ⟨_,let_spec hP hx hg.V,?_⟩ | refine ⟨_,fun L0 hl0=>let_spec hP hx hg.V,?_⟩ | (refine SCall.mono (skip_spec hP) ?_; rintro v_ L_ ⟨hv_,hL_⟩; rw [hv_,hL_]; clear hv_ hL_ v_ L_) | refine ⟨_,skip_spec hP,?_⟩ | refine ⟨_,fun L0 hl0=>skip_spec hP,?_⟩ | (refine SCall.mono (flagged_spec hP hx hg.V) ?_; rintro v_ L_ ⟨hv_,hL_⟩; rw [hv_,hL_]; clear hv_ hL_ v_ L_) | refine ⟨_,flagged_spec hP hx hg.V,?_⟩ | refine ⟨_,fun L0 hl0=>flagged_spec hP hx hg.V,?_⟩ | (refine SCall.mono (truth_spec hP _) ?_; rintro v_ L_ ⟨hv_,hL_⟩; rw [hv_,hL_]; clear hv_ hL_ v_ L_) | refine ⟨_,truth_spec hP _,?_⟩ | refine ⟨_,fun L0 hl0=>truth_spec hP _,?_⟩ | (refine SCall.mono (down_spec (i := 0) hP rfl hx hg.Vb) ?_; rintro v_ L_ ⟨hv_,hL_⟩; rw [hv_,hL_]; clear hv_ hL_ v_ L_) | refine ⟨_,down_spec (i := 0) hP rfl hx hg.Vb,?_⟩ | refine ⟨_,fun L0 hl0=>down_spec (i := 0) hP rfl hx hg.Vb,?_⟩ | (refine SCall.mono (behind_spec hP hx) ?_; rintro v_ L_ ⟨hv_,hL_⟩; rw [hv_,hL_]; clear hv_ hL_ v_ L_) | refine ⟨_,behind_spec hP hx,?_⟩ | refine ⟨_,fun L0 hl0=>behind_spec hP hx,?_⟩ | refine And.intro (by omega) ?_ | fail); try refine stI ?_; try simp (dsimp:=false)(disch:=omega) only [go_sem,Φa,hP,hops])
 refine hK2 _ _ ?_
 try clear hK2 K2
 refine SX.seq_k fun K3 hK3=>?_
 refine SX.seq_k fun K4 hK4=>?_
 refine SX.region_d [some 10,some 11] rfl (fun ops hops=>?_)
 unfold Dsts at hops
 simp (dsimp:=false)(disch:=omega) only [go_sem,Φa,hP,hops]
 repeat' ((first | refine ⟨_,Cell.at 0 rfl rfl,?_⟩ | refine ⟨0,_,_,_,rfl,(by rw [pcells_length]; omega),.inr (by first | decide | exact Nat.zero_le _),?_⟩ | refine And.intro (by omega) ?_ | fail); try refine stI ?_; try simp (dsimp:=false)(disch:=omega) only [go_sem,Φa,hP,hops])
 refine hK4 _ _ ?_
 try clear hK4 K4
 refine SX.live [0,3,11] (fun T1 hT1=>?_)
 simp only [forall_mem_cons',forall_mem_nil',go_sem,Φa,hP] at hT1
 obtain ⟨h1_0,h1_3,h1_11⟩ := hT1
 refine SX.cond_k fun X5 Y5 hX5 hY5=>?_
 simp (dsimp:=false)(disch:=omega) only [go_sem,Φa,hP,h1_0,h1_3,h1_11,condVC]
 refine ⟨fun hc11=>hX5 ?_,fun hc11=>hY5 ?_⟩
 ·clear hX5 hY5 X5 Y5
  refine SX.seq_k fun K6 hK6=>?_
  refine SX.region_d [some 2] rfl (fun ops hops=>?_)
  unfold Dsts at hops
  simp (dsimp:=false)(disch:=omega) only [go_sem,Φa,hP,h1_0,h1_3,h1_11,hops]
  repeat' ((first | refine ⟨_,Cell.at 0 rfl rfl,?_⟩ | refine ⟨0,_,_,_,rfl,(by rw [pcells_length]; omega),.inr (by first | decide | exact Nat.zero_le _),?_⟩ | fail); try refine stI ?_; try simp (dsimp:=false)(disch:=omega) only [go_sem,Φa,hP,h1_0,h1_3,h1_11,hops])
  refine hK6 _ _ ?_
  try clear hK6 K6
  refine SX.ret ?_
  simp only [andThen_normal,andThen_ret,andThen_exit,inBlk_normal,inBlk_ret,inBlk_exit,Nat.reduceEqDiff,if_true,if_false,↓reduceIte,retQ_ret]
  try simp only [res0,res1,res2,res3,stK_e,go_sem,Φa,hP,h1_0,h1_3,h1_11]
  refine ⟨_,_,Less.refl _,rfl,?_⟩
  unfold backG
  rw [if_pos (by first | exact hc11 | omega)]
  exact ⟨rfl,_,pv,mv,q1,q2,q3,rfl,hr⟩
 clear hX5 hY5 X5 Y5
 refine SX.skip ?_
 try simp only [andThen_normal,andThen_ret,andThen_exit,inBlk_normal,inBlk_ret,inBlk_exit,Nat.reduceEqDiff,if_true,if_false,↓reduceIte]
 refine hK3 _ _ ?_
 try clear hK3 K3
 refine SX.seq_k fun K7 hK7=>?_
 have hn : 0 < g.st.length := by omega
 obtain ⟨rs,caps,js,hsv,rfl,hcs,hjs⟩ := RowI.form2 hr.st hn
 cases hsv
 have hw64 : IntKind.i64.wrap ((g.st.length : Int) - 1) = ((g.st.length - 1 : Nat) : Int) := by rw [w64 (by omega)]; omega
 have hlt : ((g.st.length - 1 : Nat) : Int) < (g.st.length : Int) := by omega
 have hlast : (ints .u16 g.st ++ js)[g.st.length - 1]? = some (.int .u16 (g.st.getD (g.st.length - 1) 0)) := ints_app_at (by omega)
 refine SX.region_d [some 12,some 13,some 14,some 15,some 16,some 17,some 18,some 19,some 20,some 21,some 22,some 23,some 24,none] rfl (fun ops hops=>?_)
 unfold Dsts at hops
 simp (dsimp:=false)(disch:=omega) only [go_sem,Φa,hP,h1_0,h1_3,h1_11,hops,hw64]
 refine ⟨_,Cell.at 0 rfl (show (pcells _ _ _ _ _ _ _ _)[18]? = _ from rfl),?_⟩
 try refine stI ?_
 try simp (dsimp:=false)(disch:=omega) only [go_sem,Φa,hP,h1_0,h1_3,h1_11,hops,hw64]
 refine ⟨_,Cell.at 1 rfl hlast,?_⟩
 try refine stI ?_
 try simp (dsimp:=false)(disch:=omega) only [go_sem,Φa,hP,h1_0,h1_3,h1_11,hops,hw64]
 refine ⟨0,_,_,_,rfl,(by rw [pcells_length]; omega),.inr (by first | decide | exact Nat.zero_le _),?_⟩
 try refine stI ?_
 try simp (dsimp:=false)(disch:=omega) only [go_sem,Φa,hP,h1_0,h1_3,h1_11,hops,hw64]
 refine hK7 _ _ ?_
 try clear hK7 K7
 refine SX.live [0,3] (fun T2 hT2=>?_)
 simp only [forall_mem_cons',forall_mem_nil',go_sem,Φa,hP,h1_0,h1_3,h1_11] at hT2
 obtain ⟨h2_0,h2_3⟩ := hT2
 clear h1_0 h1_3 h1_11 T1
 refine SX.seq_k fun K8 hK8=>?_
 have hcap0 : 0 < scap := by omega
 refine SX.region_d [some 25,some 26,some 27,some 28,some 29,some 30,some 31,some 32,some 33,some 34,some 35,some 36,some 37,none] rfl (fun ops hops=>?_)
 unfold Dsts at hops
 simp (dsimp:=false)(disch:=omega) only [go_sem,Φa,hP,h2_0,h2_3,hops,hw64,cutA_lt hcap0,Nat.sub_zero]
 refine ⟨_,Cell.at 0 rfl (show (pcells _ _ _ _ _ _ _ _)[18]? = _ from rfl),?_⟩
 try refine stI ?_
 try simp (dsimp:=false)(disch:=omega) only [go_sem,Φa,hP,h2_0,h2_3,hops,hw64,cutA_lt hcap0,Nat.sub_zero]
 refine SCall.mono (cloneW_spec hP (slTake (xs := g.st) 1 rfl (by omega) (by omega)) (by simp; omega)) ?_
 rintro v_ L_ ⟨s_,rfl,hr_⟩
 obtain ⟨A_,c_,rfl,hc_⟩ := rowShape hr_
 try refine stI ?_
 try simp (dsimp:=false)(disch:=omega) only [go_sem,Φa,hP,h2_0,h2_3,hops,hw64,cutA_lt hcap0,Nat.sub_zero]
 refine ⟨1,_,_,_,rfl,(by simp [pcells_length]),.inr (by decide),?_⟩
 try refine stI ?_
 try simp (dsimp:=false)(disch:=omega) only [go_sem,Φa,hP,h2_0,h2_3,hops,hw64,cutA_lt hcap0,Nat.sub_zero]
 refine hK8 _ _ ?_
 try clear hK8 K8
 refine SX.live [] (fun T3 hT3=>?_)
 clear hT3
 clear h2_0 h2_3 T2
 refine SX.seq_k fun K9 hK9=>?_
 refine SX.region_d [some 2] rfl (fun ops hops=>?_)
 unfold Dsts at hops
 simp (dsimp:=false)(disch:=omega) only [go_sem,Φa,hP,hops]
 repeat' ((first | refine ⟨_,Cell.at 0 rfl rfl,?_⟩ | refine ⟨0,_,_,_,rfl,(by rw [pcells_length]; omega),.inr (by first | decide | exact Nat.zero_le _),?_⟩ | fail); try refine stI ?_; try simp (dsimp:=false)(disch:=omega) only [go_sem,Φa,hP,hops])
 refine hK9 _ _ ?_
 try clear hK9 K9
 refine SX.ret ?_
 simp only [andThen_normal,andThen_ret,andThen_exit,inBlk_normal,inBlk_ret,inBlk_exit,Nat.reduceEqDiff,if_true,if_false,↓reduceIte,retQ_ret]
 try simp only [res0,res1,res2,res3,stK_e,go_sem,Φa,hP]
 refine ⟨_,_,lessPut _ 1 _,rfl,?_⟩
 unfold backG
 rw [if_neg (by omega)]
 exact ⟨rfl,_,pv,mv,_,q2,q3,rfl,⟨hr_,hr.pg,hr.mm⟩⟩
theorem call_spec {Γ : Ctx} (hP : Γ.P = Tryz.prog) {L : Hp} {gp : Nat} {g : GM} {sv pv mv : Value} {o : Ord} {f : Fnt} {fv : Value} {d : Feed} {q1 q2 q3 : Slot} (hg : OkG g) (hr : Rows g sv pv mv q1 q2 q3) (ho : OkO o) (hx : o.x < 16) (hy : o.y < 16) (hd : OkD d) (hst : g.st.length ≤ 12) :
  SCall Γ 38 #[(.pointer (some ⟨gp,0,none⟩))] (PS gp g sv pv mv o f fv d :: q1 :: q2 :: q3 :: L) (mres gp o f fv d L (callG g o)) := by
 have hbx := byte_at hg.Vb o.x
 have hby := byte_at hg.Vb o.y
 have hob := ho.b
 have hoa := ho.a
 have hox := ho.x
 have hPCb := hg.PC
 have hIb := hg.I
 have hrb := hd.rnd
 have hkb := hd.keys
 have hdl := hg.dl
 have hsd := hg.sd
 obtain ⟨sb,scap,rfl,hsc⟩ := rowShape hr.st
 refine SCall.enter (n := 28) (res1 2) (hP ▸ Tryz.func38) rfl rfl (by simp) (res1_ok rfl) ?_
 refine SX.seq_k fun K1 hK1=>?_
 refine SX.region_d [some 2] rfl (fun ops hops=>?_)
 unfold Dsts at hops
 simp (dsimp:=false)(disch:=omega) only [go_sem,Φa,hP,hops]
 repeat' ((first | refine ⟨_,Cell.at 0 rfl rfl,?_⟩ | refine ⟨0,_,_,_,rfl,(by rw [pcells_length]; omega),.inr (by first | decide | exact Nat.zero_le _),?_⟩ | fail); try refine stI ?_; try simp (dsimp:=false)(disch:=omega) only [go_sem,Φa,hP,hops])
 refine hK1 _ _ ?_
 try clear hK1 K1
 refine SX.seq_k fun K2 hK2=>?_
 refine SX.seq_k fun K3 hK3=>?_
 refine SX.region_d [some 3,some 4,some 5,some 6,some 7,some 8,some 9] rfl (fun ops hops=>?_)
 unfold Dsts at hops
 simp (dsimp:=false)(disch:=omega) only [go_sem,Φa,hP,hops]
 repeat' ((first | refine ⟨_,Cell.at 0 rfl rfl,?_⟩ | refine ⟨0,_,_,_,rfl,(by rw [pcells_length]; omega),.inr (by first | decide | exact Nat.zero_le _),?_⟩ | (refine SCall.mono (x_spec (i := 0) hP rfl hx) ?_; rintro v_ L_ ⟨hv_,hL_⟩; rw [hv_,hL_]; clear hv_ hL_ v_ L_) | refine ⟨_,x_spec (i := 0) hP rfl hx,?_⟩ | refine ⟨_,fun L0 hl0=>x_spec (i := 0) hP rfl hx,?_⟩ | (refine SCall.mono (y_spec (i := 0) hP rfl hy) ?_; rintro v_ L_ ⟨hv_,hL_⟩; rw [hv_,hL_]; clear hv_ hL_ v_ L_) | refine ⟨_,y_spec (i := 0) hP rfl hy,?_⟩ | refine ⟨_,fun L0 hl0=>y_spec (i := 0) hP rfl hy,?_⟩ | (refine SCall.mono (let_spec hP hx hg.V) ?_; rintro v_ L_ ⟨hv_,hL_⟩; rw [hv_,hL_]; clear hv_ hL_ v_ L_) | refine ⟨_,let_spec hP hx hg.V,?_⟩ | refine ⟨_,fun L0 hl0=>let_spec hP hx hg.V,?_⟩ | (refine SCall.mono (skip_spec hP) ?_; rintro v_ L_ ⟨hv_,hL_⟩; rw [hv_,hL_]; clear hv_ hL_ v_ L_) | refine ⟨_,skip_spec hP,?_⟩ | refine ⟨_,fun L0 hl0=>skip_spec hP,?_⟩ | (refine SCall.mono (flagged_spec hP hx hg.V) ?_; rintro v_ L_ ⟨hv_,hL_⟩; rw [hv_,hL_]; clear hv_ hL_ v_ L_) | refine ⟨_,flagged_spec hP hx hg.V,?_⟩ | refine ⟨_,fun L0 hl0=>flagged_spec hP hx hg.V,?_⟩ | (refine SCall.mono (truth_spec hP _) ?_; rintro v_ L_ ⟨hv_,hL_⟩; rw [hv_,hL_]; clear hv_ hL_ v_ L_) | refine ⟨_,truth_spec hP _,?_⟩ | refine ⟨_,fun L0 hl0=>truth_spec hP _,?_⟩ | (refine SCall.mono (down_spec (i := 0) hP rfl hx hg.Vb) ?_; rintro v_ L_ ⟨hv_,hL_⟩; rw [hv_,hL_]; clear hv_ hL_ v_ L_) | refine ⟨_,down_spec (i := 0) hP rfl hx hg.Vb,?_⟩ | refine ⟨_,fun L0 hl0=>down_spec (i := 0) hP rfl hx hg.Vb,?_⟩ | (refine SCall.mono (behind_spec hP hx) ?_; rintro v_ L_ ⟨hv_,hL_⟩; rw [hv_,hL_]; clear hv_ hL_ v_ L_) | refine ⟨_,behind_spec hP hx,?_⟩ | refine ⟨_,fun L0 hl0=>behind_spec hP hx,?_⟩ | refine And.intro (by omega) ?_ | fail); try refine stI ?_; try simp (dsimp:=false)(disch:=omega) only [go_sem,Φa,hP,hops])
 refine hK3 _ _ ?_
 try clear hK3 K3
 refine SX.cond_k fun X4 Y4 hX4 hY4=>?_
 simp (dsimp:=false)(disch:=omega) only [go_sem,Φa,hP,condVC]
 refine ⟨fun hc9=>hX4 ?_,fun hc9=>hY4 ?_⟩
 ·clear hX4 hY4 X4 Y4
  refine SX.seq_k fun K5 hK5=>?_
  refine SX.region_d [some 2] rfl (fun ops hops=>?_)
  unfold Dsts at hops
  simp (dsimp:=false)(disch:=omega) only [go_sem,Φa,hP,hops]
  repeat' ((first | refine ⟨_,Cell.at 0 rfl rfl,?_⟩ | refine ⟨0,_,_,_,rfl,(by rw [pcells_length]; omega),.inr (by first | decide | exact Nat.zero_le _),?_⟩ | fail); try refine stI ?_; try simp (dsimp:=false)(disch:=omega) only [go_sem,Φa,hP,hops])
  refine hK5 _ _ ?_
  try clear hK5 K5
  refine SX.ret ?_
  simp only [andThen_normal,andThen_ret,andThen_exit,inBlk_normal,inBlk_ret,inBlk_exit,Nat.reduceEqDiff,if_true,if_false,↓reduceIte,retQ_ret]
  try simp only [res0,res1,res2,res3,stK_e,go_sem,Φa,hP]
  refine ⟨_,_,Less.refl _,rfl,?_⟩
  unfold callG
  rw [if_pos (by first | exact hc9 | omega)]
  exact ⟨rfl,_,pv,mv,q1,q2,q3,rfl,hr⟩
 clear hX4 hY4 X4 Y4
 refine SX.skip ?_
 try simp only [andThen_normal,andThen_ret,andThen_exit,inBlk_normal,inBlk_ret,inBlk_exit,Nat.reduceEqDiff,if_true,if_false,↓reduceIte]
 refine hK2 _ _ ?_
 try clear hK2 K2
 refine SX.seq_k fun K6 hK6=>?_
 refine SX.drawn_d [(0,.q),(1,.q),(2,.q),(3,.q),(4,.q),(5,.q),(6,.q),(7,.q),(8,.q),(9,.q),(10,.q),(11,.e),(12,.e),(13,.q),(14,.q),(15,.q),(16,.t)] (fun _=>[PS gp g (.slice sb g.st.length scap) pv mv o f fv d]) (hP ▸ T.mixed) (by kernel_rfl) (by exact lessOne _ _) [some 10,some 11,some 12,some 13,some 14,some 15,some 16,some 17,some 18,some 19,some 20,some 21,some 22,some 23,some 24,some 25,none] rfl (fun ops hops hopl=>?_)
 unfold Dsts at hops
 simp (dsimp:=false)(disch:=omega) only [go_sem,Φa,hP,hops,hopl]
 refine ⟨_,Cell.at 0 rfl (show (pcells _ _ _ _ _ _ _ _)[18]? = _ from rfl),?_⟩
 try refine stI ?_
 try simp (dsimp:=false)(disch:=omega) only [go_sem,Φa,hP,hops,hopl]
 refine ⟨_,Cell.at 0 rfl (show (pcells _ _ _ _ _ _ _ _)[17]? = _ from rfl),?_⟩
 try refine stI ?_
 try simp (dsimp:=false)(disch:=omega) only [go_sem,Φa,hP,hops,hopl]
 intro bb
 try refine stI ?_
 try simp (dsimp:=false)(disch:=omega) only [go_sem,Φa,hP,hops,hopl]
 refine And.intro (Less.drops (lessOne _ _)) ?_
 try refine stI ?_
 try simp (dsimp:=false)(disch:=omega) only [go_sem,Φa,hP,hops,hopl]
 refine YAppend.int1 (i := 1) (hP ▸ T.elS_24) (hP ▸ T.zr_23) rfl rfl hr.st (by omega) (by decide) (fun v_ s_ hr_=>?_)
 try refine stI ?_
 try simp (dsimp:=false)(disch:=omega) only [go_sem,Φa,hP,hops,hopl]
 obtain ⟨A_,c_,rfl,hc_⟩ := rowShape hr_
 try refine stI ?_
 try simp (dsimp:=false)(disch:=omega) only [go_sem,Φa,hP,hops,hopl]
 refine And.intro (Less.drops (lessOne _ _)) ?_
 try refine stI ?_
 try simp (dsimp:=false)(disch:=omega) only [go_sem,Φa,hP,hops,hopl]
 refine ⟨1,_,_,_,rfl,(by simp [pcells_length]),.inr (by decide),?_⟩
 try refine stI ?_
 try simp (dsimp:=false)(disch:=omega) only [go_sem,Φa,hP,hops,hopl]
 refine hK6 _ _ ?_
 try clear hK6 K6
 refine SX.live [0] (fun T1 hT1=>?_)
 simp only [forall_mem_cons',forall_mem_nil',go_sem,Φa,hP] at hT1
 have h1_0 := hT1; clear hT1
 refine SX.seq_k fun K7 hK7=>?_
 refine SX.less (Less.drop _ _) ?_
 have hg' : OkG { g with st := g.st ++ [g.PC] } := ⟨hg.V,hg.Vb,hg.I,hg.PC,wd_app hg.st hg.PC,hg.dl,hg.sd,hg.pg,hg.mm⟩
 refine SX.region_d [some 26,some 27,some 2] rfl (fun ops hops=>?_)
 unfold Dsts at hops
 simp (dsimp:=false)(disch:=omega) only [go_sem,Φa,hP,h1_0,hops]
 refine SCall.mono (jump_spec (g := { g with st := g.st ++ [g.PC] }) hP hg' ⟨hr_,hr.pg,hr.mm⟩ ho hx hy hd) ?_
 rintro v_ L_ ⟨rfl,sv',pv',mv',p1,p2,p3,rfl,hr'⟩
 try refine stI ?_
 try simp (dsimp:=false)(disch:=omega) only [go_sem,Φa,hP,h1_0,hops]
 refine hK7 _ _ ?_
 try clear hK7 K7
 refine SX.ret ?_
 simp only [andThen_normal,andThen_ret,andThen_exit,inBlk_normal,inBlk_ret,inBlk_exit,Nat.reduceEqDiff,if_true,if_false,↓reduceIte,retQ_ret]
 try simp only [res0,res1,res2,res3,stK_e,go_sem,Φa,hP,h1_0]
 refine ⟨_,_,Less.refl _,rfl,?_⟩
 unfold callG
 rw [if_neg (by omega)]
 exact ⟨rfl,_,_,_,_,_,_,rfl,hr'⟩


end Go.Proofs.YtgioegdjeodpiaaGreat
namespace Go.SX
theorem SCall.of_less {Γ : Ctx} {f : FuncId} {args : Array Value} {L L0 : Hp} {R : Value → Hp → Prop} (hl : Less L L0) (h : SCall Γ f args L0 R) : SCall Γ f args L R := fun w hi=>h w (hl _ _ hi)
theorem Less.behind4 (p a b c d : Slot) (L : Hp) : Less (p :: a :: b :: c :: d :: L) (a :: b :: c :: d :: p :: L) := Less.perm (List.perm_middle (l₁ := [a,b,c,d])).symm
theorem Less.front4 (p a b c d : Slot) (L : Hp) : Less (a :: b :: c :: d :: p :: L) (p :: a :: b :: c :: d :: L) := Less.perm (List.perm_middle (l₁ := [a,b,c,d]))
theorem Less.drop4 (p a b c d : Slot) (L : Hp) : Less (a :: b :: c :: d :: p :: L) (a :: b :: c :: d :: L) := (Less.front4 p a b c d L).trans (Less.drop _ _)
end Go.SX
namespace Go.Proofs.YtgioegdjeodpiaaGreat
open Go.RowKit Go.SX
set_option maxHeartbeats 1000000
set_option maxRecDepth 100000

def threeL (g : GM) (o : Ord) : List Int := [g.V.getD o.x 0 / 100,g.V.getD o.x 0 / 10 % 10,g.V.getD o.x 0 % 10]
def threeG (g : GM) (o : Ord) : Int × GM := match layG g (threeL g o) with
 | some g'=>(1,g')
 | none=>(7,g)
def storeG (g : GM) (o : Ord) : Int × GM := match layG g (g.V.take (o.x + 1)) with
 | some g'=>(1,behindG g' o)
 | none=>(7,g)
def drawG (g : GM) (o : Ord) (f : Fnt) : Int × GM := match rowG g f o.n with
 | none=>(7,g)
 | some rows=>(1,{ g with pg := (drawn g.pg (vG g o.x).toNat (vG g o.y).toNat rows).2,V := g.V.set 15 (truthI (drawn g.pg (vG g o.x).toNat (vG g o.y).toNat rows).1) })
def fillG (g : GM) (o : Ord) (f : Fnt) : Int × GM := match rowG g f (o.x + 1) with
 | none=>(7,g)
 | some l=>(1,behindG { g with V := spliceL g.V 0 l } o)
theorem layG_fields {g g' : GM} {bs : List Int} (h : layG g bs = some g') : g' = { g with mm := spliceL g.mm (g.I - 512).toNat bs } := by
 unfold layG at h
 split at h
 ·cases h; rfl
 cases h
theorem sliceV {Γ : Ctx} {L : Hp} {gp i n c : Nat} {g : GM} {sv pv mv : Value} {o : Ord} {f : Fnt} {fv : Value} {d : Feed} (hV : g.V.length = 16) (hi : L[i]? = some (PS gp g sv pv mv o f fv d)) (hn : n ≤ 16) (hc : n ≤ c) : SlI .u8 (Cell Γ L) (.slice (some ⟨gp,0,none⟩) n c) (g.V.take n) := by
 refine ⟨_,c,by rw [List.length_take,hV,Nat.min_eq_left hn],by rw [List.length_take,hV]; omega,fun j x hj=>⟨_,rfl,?_⟩⟩
 show Cell Γ L _ _
 rw [Nat.mul_one,Addr.add_lit,Nat.zero_add]
 have hj' := (List.getElem?_eq_some_iff.1 hj).1
 rw [List.length_take] at hj'
 have hx : g.V.getD j 0 = x := by
  rw [List.getElem?_take_of_lt (by omega)] at hj
  rw [List.getD_eq_getElem?_getD,hj]; rfl
 rw [← hx]
 exact Cell.at i hi (pV (by omega))
theorem three_spec {Γ : Ctx} (hP : Γ.P = Tryz.prog) {L : Hp} {gp : Nat} {g : GM} {sv pv mv : Value} {o : Ord} {f : Fnt} {fv : Value} {d : Feed} {q1 q2 q3 : Slot} (hg : OkG g) (hr : Rows g sv pv mv q1 q2 q3) (ho : OkO o) (hx : o.x < 16) (hy : o.y < 16) (hd : OkD d) (hml : g.mm.length = 3232) :
  SCall Γ 62 #[(.pointer (some ⟨gp,0,none⟩))] (PS gp g sv pv mv o f fv d :: q1 :: q2 :: q3 :: L) (mres gp o f fv d L (threeG g o)) := by
 have hbx := byte_at hg.Vb o.x
 have hby := byte_at hg.Vb o.y
 have hob := ho.b
 have hoa := ho.a
 have hox := ho.x
 have hPCb := hg.PC
 have hIb := hg.I
 have hrb := hd.rnd
 have hkb := hd.keys
 have hdl := hg.dl
 have hsd := hg.sd
 refine SCall.enter (n := 17) (res1 2) (hP ▸ Tryz.func62) rfl rfl (by simp) (res1_ok rfl) ?_
 refine SX.seq_k fun K1 hK1=>?_
 refine SX.region_d [some 2] rfl (fun ops hops=>?_)
 unfold Dsts at hops
 simp (dsimp:=false)(disch:=omega) only [go_sem,ia_someH,hP,hops]
 repeat' ((first | refine ⟨_,Cell.at 0 rfl rfl,?_⟩ | refine ⟨0,_,_,_,rfl,(by rw [pcells_length]; omega),.inr (by first | decide | exact Nat.zero_le _),?_⟩ | fail); try refine stI ?_; try simp (dsimp:=false)(disch:=omega) only [go_sem,ia_someH,hP,hops])
 refine hK1 _ _ ?_
 try clear hK1 K1
 refine SX.seq_k fun K2 hK2=>?_
 refine SX.region_d [some 4,some 5,some 3] rfl (fun ops hops=>?_)
 unfold Dsts at hops
 simp (dsimp:=false)(disch:=omega) only [go_sem,ia_someH,hP,hops]
 repeat' ((first | refine ⟨_,Cell.at 0 rfl rfl,?_⟩ | refine ⟨0,_,_,_,rfl,(by rw [pcells_length]; omega),.inr (by first | decide | exact Nat.zero_le _),?_⟩ | (refine SCall.mono (x_spec (i := 0) hP rfl hx) ?_; rintro v_ L_ ⟨hv_,hL_⟩; rw [hv_,hL_]; clear hv_ hL_ v_ L_) | refine ⟨_,x_spec (i := 0) hP rfl hx,?_⟩ | refine ⟨_,fun L0 hl0=>x_spec (i := 0) hP rfl hx,?_⟩ | (refine SCall.mono (y_spec (i := 0) hP rfl hy) ?_; rintro v_ L_ ⟨hv_,hL_⟩; rw [hv_,hL_]; clear hv_ hL_ v_ L_) | refine ⟨_,y_spec (i := 0) hP rfl hy,?_⟩ | refine ⟨_,fun L0 hl0=>y_spec (i := 0) hP rfl hy,?_⟩ | (refine SCall.mono (let_spec hP hx hg.V) ?_; rintro v_ L_ ⟨hv_,hL_⟩; rw [hv_,hL_]; clear hv_ hL_ v_ L_) | refine ⟨_,let_spec hP hx hg.V,?_⟩ | refine ⟨_,fun L0 hl0=>let_spec hP hx hg.V,?_⟩ | (refine SCall.mono (skip_spec hP) ?_; rintro v_ L_ ⟨hv_,hL_⟩; rw [hv_,hL_]; clear hv_ hL_ v_ L_) | refine ⟨_,skip_spec hP,?_⟩ | refine ⟨_,fun L0 hl0=>skip_spec hP,?_⟩ | (refine SCall.mono (flagged_spec hP hx hg.V) ?_; rintro v_ L_ ⟨hv_,hL_⟩; rw [hv_,hL_]; clear hv_ hL_ v_ L_) | refine ⟨_,flagged_spec hP hx hg.V,?_⟩ | refine ⟨_,fun L0 hl0=>flagged_spec hP hx hg.V,?_⟩ | (refine SCall.mono (truth_spec hP _) ?_; rintro v_ L_ ⟨hv_,hL_⟩; rw [hv_,hL_]; clear hv_ hL_ v_ L_) | refine ⟨_,truth_spec hP _,?_⟩ | refine ⟨_,fun L0 hl0=>truth_spec hP _,?_⟩ | (refine SCall.mono (down_spec (i := 0) hP rfl hx hg.Vb) ?_; rintro v_ L_ ⟨hv_,hL_⟩; rw [hv_,hL_]; clear hv_ hL_ v_ L_) | refine ⟨_,down_spec (i := 0) hP rfl hx hg.Vb,?_⟩ | refine ⟨_,fun L0 hl0=>down_spec (i := 0) hP rfl hx hg.Vb,?_⟩ | (refine SCall.mono (behind_spec hP hx) ?_; rintro v_ L_ ⟨hv_,hL_⟩; rw [hv_,hL_]; clear hv_ hL_ v_ L_) | refine ⟨_,behind_spec hP hx,?_⟩ | refine ⟨_,fun L0 hl0=>behind_spec hP hx,?_⟩ | refine And.intro (by omega) ?_ | fail); try refine stI ?_; try simp (dsimp:=false)(disch:=omega) only [go_sem,ia_someH,hP,hops])
 refine hK2 _ _ ?_
 try clear hK2 K2
 refine SX.seq_k fun K3 hK3=>?_
 refine SX.seq_k fun K4 hK4=>?_
 have hd1 : (g.V.getD o.x 0).tdiv 100 = g.V.getD o.x 0 / 100 := Int.tdiv_eq_ediv_of_nonneg hbx.1
 have hd2 : (g.V.getD o.x 0).tdiv 10 = g.V.getD o.x 0 / 10 := Int.tdiv_eq_ediv_of_nonneg hbx.1
 have hd3 : (g.V.getD o.x 0 / 10).tmod 10 = g.V.getD o.x 0 / 10 % 10 := Int.tmod_eq_emod_of_nonneg (by omega)
 have hd4 : (g.V.getD o.x 0).tmod 10 = g.V.getD o.x 0 % 10 := Int.tmod_eq_emod_of_nonneg hbx.1
 refine SX.region_d [some 6,some 7,some 8,some 9,some 10,some 11,some 12,some 13,some 14,some 15,some 16] rfl (fun ops hops=>?_)
 unfold Dsts at hops
 simp (dsimp:=false)(disch:=omega) only [go_sem,ia_someH,hP,hops,hd1,hd2,hd3,hd4]
 intro bb
 try refine stI ?_
 try simp (dsimp:=false)(disch:=omega) only [go_sem,ia_someH,hP,hops,hd1,hd2,hd3,hd4]
 refine SCall.mono (SCall.of_less (Less.behind4 _ _ _ _ _ _) (lay_spec (bs := threeL g o) hP hg (SlI.own (xs := threeL g o) 4 rfl rfl (Nat.le_refl 3)) (by simp [threeL]) (by simp [threeL]) hr.mm hml)) ?_
 intro v_ L_ hl_
 try refine stI ?_
 try simp (dsimp:=false)(disch:=omega) only [go_sem,ia_someH,hP,hops,hd1,hd2,hd3,hd4]
 unfold layR at hl_
 rcases hlay : layG g (threeL g o) with _ | g'
 ·skip
  try refine stI ?_
  rw [hlay] at hl_
  obtain ⟨rfl,rfl⟩ := hl_
  try refine stI ?_
  try simp (dsimp:=false)(disch:=omega) only [go_sem,ia_someH,hP,hops,hd1,hd2,hd3,hd4]
  refine hK4 _ _ ?_
  try clear hK4 K4
  refine SX.live [16] (fun T1 hT1=>?_)
  simp only [forall_mem_cons',forall_mem_nil',go_sem,ia_someH,hP] at hT1
  have h1_16 := hT1; clear hT1
  refine SX.cond_k fun X5 Y5 hX5 hY5=>?_
  simp (dsimp:=false)(disch:=omega) only [go_sem,ia_someH,hP,h1_16,condVC]
  refine hX5 ?_
  clear hX5 hY5 X5 Y5
  refine SX.seq_k fun K6 hK6=>?_
  refine SX.region_d [some 2] rfl (fun ops hops=>?_)
  unfold Dsts at hops
  simp (dsimp:=false)(disch:=omega) only [go_sem,ia_someH,hP,h1_16,hops]
  repeat' ((first | refine ⟨_,Cell.at 0 rfl rfl,?_⟩ | refine ⟨0,_,_,_,rfl,(by rw [pcells_length]; omega),.inr (by first | decide | exact Nat.zero_le _),?_⟩ | fail); try refine stI ?_; try simp (dsimp:=false)(disch:=omega) only [go_sem,ia_someH,hP,h1_16,hops])
  refine hK6 _ _ ?_
  try clear hK6 K6
  refine SX.ret ?_
  simp only [andThen_normal,andThen_ret,andThen_exit,inBlk_normal,inBlk_ret,inBlk_exit,Nat.reduceEqDiff,if_true,if_false,↓reduceIte,retQ_ret]
  try simp only [res0,res1,res2,res3,stK_e,go_sem,ia_someH,hP,h1_16]
  refine ⟨_,_,Less.drop4 _ _ _ _ _ _,rfl,?_⟩
  unfold threeG
  rw [hlay]
  exact ⟨rfl,sv,pv,mv,q1,q2,q3,rfl,hr⟩
 skip
 try refine stI ?_
 rw [hlay] at hl_
 obtain ⟨rfl,q3',rfl,hr3⟩ := hl_
 try refine stI ?_
 try simp (dsimp:=false)(disch:=omega) only [go_sem,ia_someH,hP,hops,hd1,hd2,hd3,hd4]
 refine hK4 _ _ ?_
 try clear hK4 K4
 refine SX.live [16] (fun T2 hT2=>?_)
 simp only [forall_mem_cons',forall_mem_nil',go_sem,ia_someH,hP] at hT2
 have h2_16 := hT2; clear hT2
 refine SX.cond_k fun X7 Y7 hX7 hY7=>?_
 simp (dsimp:=false)(disch:=omega) only [go_sem,ia_someH,hP,h2_16,condVC]
 refine hY7 ?_
 clear hX7 hY7 X7 Y7
 refine SX.skip ?_
 try simp only [andThen_normal,andThen_ret,andThen_exit,inBlk_normal,inBlk_ret,inBlk_exit,Nat.reduceEqDiff,if_true,if_false,↓reduceIte]
 refine hK3 _ _ ?_
 try clear hK3 K3
 refine SX.seq_k fun K8 hK8=>?_
 refine SX.region_d [some 2] rfl (fun ops hops=>?_)
 unfold Dsts at hops
 simp (dsimp:=false)(disch:=omega) only [go_sem,ia_someH,hP,h2_16,hops]
 repeat' ((first | refine ⟨_,Cell.at 0 rfl rfl,?_⟩ | refine ⟨0,_,_,_,rfl,(by rw [pcells_length]; omega),.inr (by first | decide | exact Nat.zero_le _),?_⟩ | fail); try refine stI ?_; try simp (dsimp:=false)(disch:=omega) only [go_sem,ia_someH,hP,h2_16,hops])
 refine hK8 _ _ ?_
 try clear hK8 K8
 refine SX.ret ?_
 simp only [andThen_normal,andThen_ret,andThen_exit,inBlk_normal,inBlk_ret,inBlk_exit,Nat.reduceEqDiff,if_true,if_false,↓reduceIte,retQ_ret]
 try simp only [res0,res1,res2,res3,stK_e,go_sem,ia_someH,hP,h2_16]
 refine ⟨_,_,Less.drop4 _ _ _ _ _ _,rfl,?_⟩
 unfold threeG
 rw [hlay]
 have hf := layG_fields hlay
 exact ⟨rfl,sv,pv,mv,q1,q2,_,rfl,⟨by rw [hf]; exact hr.st,by rw [hf]; exact hr.pg,hr3⟩⟩
theorem store_spec {Γ : Ctx} (hP : Γ.P = Tryz.prog) {L : Hp} {gp : Nat} {g : GM} {sv pv mv : Value} {o : Ord} {f : Fnt} {fv : Value} {d : Feed} {q1 q2 q3 : Slot} (hg : OkG g) (hr : Rows g sv pv mv q1 q2 q3) (ho : OkO o) (hx : o.x < 16) (hy : o.y < 16) (hd : OkD d) (hml : g.mm.length = 3232) :
  SCall Γ 63 #[(.pointer (some ⟨gp,0,none⟩))] (PS gp g sv pv mv o f fv d :: q1 :: q2 :: q3 :: L) (mres gp o f fv d L (storeG g o)) := by
 have hbx := byte_at hg.Vb o.x
 have hby := byte_at hg.Vb o.y
 have hob := ho.b
 have hoa := ho.a
 have hox := ho.x
 have hPCb := hg.PC
 have hIb := hg.I
 have hrb := hd.rnd
 have hkb := hd.keys
 have hdl := hg.dl
 have hsd := hg.sd
 refine SCall.enter (n := 19) (res1 2) (hP ▸ Tryz.func63) rfl rfl (by simp) (res1_ok rfl) ?_
 refine SX.seq_k fun K1 hK1=>?_
 refine SX.region_d [some 2] rfl (fun ops hops=>?_)
 unfold Dsts at hops
 simp (dsimp:=false)(disch:=omega) only [go_sem,ia_someH,hP,hops]
 repeat' ((first | refine ⟨_,Cell.at 0 rfl rfl,?_⟩ | refine ⟨0,_,_,_,rfl,(by rw [pcells_length]; omega),.inr (by first | decide | exact Nat.zero_le _),?_⟩ | fail); try refine stI ?_; try simp (dsimp:=false)(disch:=omega) only [go_sem,ia_someH,hP,hops])
 refine hK1 _ _ ?_
 try clear hK1 K1
 refine SX.seq_k fun K2 hK2=>?_
 refine SX.seq_k fun K3 hK3=>?_
 have hc16 : cutA (some ⟨gp,0,none⟩) 1 16 0 = some ⟨gp,0,none⟩ := cutA_lt (by omega)
 have hx1 : ((o.x : Int) + 1).toNat = o.x + 1 := by omega
 refine SX.drawn_d [(0,.q),(1,.q),(2,.q),(3,.q),(4,.q),(5,.q),(6,.q),(7,.q),(8,.q),(9,.q),(10,.q),(11,.q),(12,.t),(13,.t)] (fun L=>L) (hP ▸ T.mixed) (by kernel_rfl) (by exact Less.refl _) [some 3,some 4,some 5,some 6,some 7,some 8,some 9,some 10,some 11,some 12,some 13,some 14,some 15,some 16] rfl (fun ops hops hopl=>?_)
 unfold Dsts at hops
 simp (dsimp:=false)(disch:=omega) only [go_sem,ia_someH,hP,hops,hopl,hc16,Nat.sub_zero,hx1]
 refine ⟨_,Cell.at 0 rfl (show (pcells _ _ _ _ _ _ _ _)[24]? = _ from rfl),?_⟩
 try refine stI ?_
 try simp (dsimp:=false)(disch:=omega) only [go_sem,ia_someH,hP,hops,hopl,hc16,Nat.sub_zero,hx1]
 refine SCall.mono (lay_spec (bs := g.V.take (o.x + 1)) hP hg (sliceV (i := 0) (n := o.x + 1) (c := 16) hg.V rfl (by omega) (by omega)) (by rw [List.length_take,hg.V]; omega) (by rw [List.length_take,hg.V]; omega) hr.mm hml) ?_
 intro v_ L_ hl_
 try refine stI ?_
 try simp (dsimp:=false)(disch:=omega) only [go_sem,ia_someH,hP,hops,hopl,hc16,Nat.sub_zero,hx1]
 unfold layR at hl_
 rcases hlay : layG g (g.V.take (o.x + 1)) with _ | g'
 ·skip
  try refine stI ?_
  rw [hlay] at hl_
  obtain ⟨rfl,rfl⟩ := hl_
  try refine stI ?_
  try simp (dsimp:=false)(disch:=omega) only [go_sem,ia_someH,hP,hops,hopl,hc16,Nat.sub_zero,hx1]
  refine hK3 _ _ ?_
  try clear hK3 K3
  refine SX.live [0,16] (fun T1 hT1=>?_)
  simp only [forall_mem_cons',forall_mem_nil',go_sem,ia_someH,hP] at hT1
  obtain ⟨h1_0,h1_16⟩ := hT1
  refine SX.cond_k fun X4 Y4 hX4 hY4=>?_
  simp (dsimp:=false)(disch:=omega) only [go_sem,ia_someH,hP,h1_0,h1_16,condVC]
  refine hX4 ?_
  clear hX4 hY4 X4 Y4
  refine SX.seq_k fun K5 hK5=>?_
  refine SX.region_d [some 2] rfl (fun ops hops=>?_)
  unfold Dsts at hops
  simp (dsimp:=false)(disch:=omega) only [go_sem,ia_someH,hP,h1_0,h1_16,hops]
  repeat' ((first | refine ⟨_,Cell.at 0 rfl rfl,?_⟩ | refine ⟨0,_,_,_,rfl,(by rw [pcells_length]; omega),.inr (by first | decide | exact Nat.zero_le _),?_⟩ | fail); try refine stI ?_; try simp (dsimp:=false)(disch:=omega) only [go_sem,ia_someH,hP,h1_0,h1_16,hops])
  refine hK5 _ _ ?_
  try clear hK5 K5
  refine SX.ret ?_
  simp only [andThen_normal,andThen_ret,andThen_exit,inBlk_normal,inBlk_ret,inBlk_exit,Nat.reduceEqDiff,if_true,if_false,↓reduceIte,retQ_ret]
  try simp only [res0,res1,res2,res3,stK_e,go_sem,ia_someH,hP,h1_0,h1_16]
  refine ⟨_,_,Less.refl _,rfl,?_⟩
  unfold storeG
  rw [hlay]
  exact ⟨rfl,sv,pv,mv,q1,q2,q3,rfl,hr⟩
 skip
 try refine stI ?_
 rw [hlay] at hl_
 obtain ⟨rfl,q3',rfl,hr3⟩ := hl_
 try refine stI ?_
 try simp (dsimp:=false)(disch:=omega) only [go_sem,ia_someH,hP,hops,hopl,hc16,Nat.sub_zero,hx1]
 refine hK3 _ _ ?_
 try clear hK3 K3
 refine SX.live [0,16] (fun T2 hT2=>?_)
 simp only [forall_mem_cons',forall_mem_nil',go_sem,ia_someH,hP] at hT2
 obtain ⟨h2_0,h2_16⟩ := hT2
 refine SX.cond_k fun X6 Y6 hX6 hY6=>?_
 simp (dsimp:=false)(disch:=omega) only [go_sem,ia_someH,hP,h2_0,h2_16,condVC]
 refine hY6 ?_
 clear hX6 hY6 X6 Y6
 refine SX.skip ?_
 try simp only [andThen_normal,andThen_ret,andThen_exit,inBlk_normal,inBlk_ret,inBlk_exit,Nat.reduceEqDiff,if_true,if_false,↓reduceIte]
 refine hK2 _ _ ?_
 try clear hK2 K2
 refine SX.seq_k fun K7 hK7=>?_
 refine SX.region_d [some 17,some 18,some 2] rfl (fun ops hops=>?_)
 unfold Dsts at hops
 simp (dsimp:=false)(disch:=omega) only [go_sem,ia_someH,hP,h2_0,h2_16,hops]
 repeat' ((first | refine ⟨_,Cell.at 0 rfl rfl,?_⟩ | refine ⟨0,_,_,_,rfl,(by rw [pcells_length]; omega),.inr (by first | decide | exact Nat.zero_le _),?_⟩ | (refine SCall.mono (x_spec (i := 0) hP rfl hx) ?_; rintro v_ L_ ⟨hv_,hL_⟩; rw [hv_,hL_]; clear hv_ hL_ v_ L_) | refine ⟨_,x_spec (i := 0) hP rfl hx,?_⟩ | refine ⟨_,fun L0 hl0=>x_spec (i := 0) hP rfl hx,?_⟩ | (refine SCall.mono (y_spec (i := 0) hP rfl hy) ?_; rintro v_ L_ ⟨hv_,hL_⟩; rw [hv_,hL_]; clear hv_ hL_ v_ L_) | refine ⟨_,y_spec (i := 0) hP rfl hy,?_⟩ | refine ⟨_,fun L0 hl0=>y_spec (i := 0) hP rfl hy,?_⟩ | (refine SCall.mono (let_spec hP hx hg.V) ?_; rintro v_ L_ ⟨hv_,hL_⟩; rw [hv_,hL_]; clear hv_ hL_ v_ L_) | refine ⟨_,let_spec hP hx hg.V,?_⟩ | refine ⟨_,fun L0 hl0=>let_spec hP hx hg.V,?_⟩ | (refine SCall.mono (skip_spec hP) ?_; rintro v_ L_ ⟨hv_,hL_⟩; rw [hv_,hL_]; clear hv_ hL_ v_ L_) | refine ⟨_,skip_spec hP,?_⟩ | refine ⟨_,fun L0 hl0=>skip_spec hP,?_⟩ | (refine SCall.mono (flagged_spec hP hx hg.V) ?_; rintro v_ L_ ⟨hv_,hL_⟩; rw [hv_,hL_]; clear hv_ hL_ v_ L_) | refine ⟨_,flagged_spec hP hx hg.V,?_⟩ | refine ⟨_,fun L0 hl0=>flagged_spec hP hx hg.V,?_⟩ | (refine SCall.mono (truth_spec hP _) ?_; rintro v_ L_ ⟨hv_,hL_⟩; rw [hv_,hL_]; clear hv_ hL_ v_ L_) | refine ⟨_,truth_spec hP _,?_⟩ | refine ⟨_,fun L0 hl0=>truth_spec hP _,?_⟩ | (refine SCall.mono (down_spec (i := 0) hP rfl hx hg.Vb) ?_; rintro v_ L_ ⟨hv_,hL_⟩; rw [hv_,hL_]; clear hv_ hL_ v_ L_) | refine ⟨_,down_spec (i := 0) hP rfl hx hg.Vb,?_⟩ | refine ⟨_,fun L0 hl0=>down_spec (i := 0) hP rfl hx hg.Vb,?_⟩ | (refine SCall.mono (behind_spec hP hx) ?_; rintro v_ L_ ⟨hv_,hL_⟩; rw [hv_,hL_]; clear hv_ hL_ v_ L_) | refine ⟨_,behind_spec hP hx,?_⟩ | refine ⟨_,fun L0 hl0=>behind_spec hP hx,?_⟩ | refine And.intro (by omega) ?_ | fail); try refine stI ?_; try simp (dsimp:=false)(disch:=omega) only [go_sem,ia_someH,hP,h2_0,h2_16,hops])
 refine hK7 _ _ ?_
 try clear hK7 K7
 refine SX.ret ?_
 simp only [andThen_normal,andThen_ret,andThen_exit,inBlk_normal,inBlk_ret,inBlk_exit,Nat.reduceEqDiff,if_true,if_false,↓reduceIte,retQ_ret]
 try simp only [res0,res1,res2,res3,stK_e,go_sem,ia_someH,hP,h2_0,h2_16]
 refine ⟨_,_,Less.refl _,rfl,?_⟩
 unfold storeG
 rw [hlay]
 have hf := layG_fields hlay
 exact ⟨rfl,sv,pv,mv,q1,q2,_,rfl,⟨by rw [hf]; exact hr.st,by rw [hf]; exact hr.pg,hr3⟩⟩


end Go.Proofs.YtgioegdjeodpiaaGreat
namespace Go.Proofs.YtgioegdjeodpiaaGreat
open Go.RowKit Go.SX
open Go.SX renaming ia_someH → Φa
set_option maxHeartbeats 1000000
set_option maxRecDepth 100000

section
variable {g : GM} {sv pv mv : Value} {o : Ord} {f : Fnt} {fv : Value} {d : Feed}
theorem set_pg (pg' : List Int) (pv' : Value) : (pcells g sv pv mv o f fv d).set 21 pv' = pcells { g with pg := pg' } sv pv' mv o f fv d := rfl
theorem list16 {l : List Int} (h : l.length = 16) : l = [l.getD 0 0,l.getD 1 0,l.getD 2 0,l.getD 3 0,l.getD 4 0,l.getD 5 0,l.getD 6 0,l.getD 7 0,l.getD 8 0,l.getD 9 0,l.getD 10 0,l.getD 11 0,l.getD 12 0,l.getD 13 0,l.getD 14 0,l.getD 15 0] := by
 match l,h with
 | [_,_,_,_,_,_,_,_,_,_,_,_,_,_,_,_],_=>rfl
theorem pcells_V (hV : g.V.length = 16) : pcells g sv pv mv o f fv d = ints .u8 g.V ++ (.int .u16 g.I :: .int .u16 g.PC :: sv :: .int .u8 g.dl :: .int .u8 g.sd :: pv :: mv :: (o.cells ++ (f.cells fv ++ d.cells))) := by
 conv=>rhs; rw [list16 hV]
 rfl
theorem pV_all {l : List Int} (hV : g.V.length = 16) (hl : l.length ≤ 16) : setN (pcells g sv pv mv o f fv d) 0 (ints .u8 l) = pcells { g with V := spliceL g.V 0 l } sv pv mv o f fv d := by
 rw [pcells_V hV,setN_splice (by omega),pcells_V (by show (spliceL g.V 0 l).length = 16; rw [spliceL_length (by omega)]; exact hV)]
end
theorem drawn_length (page : List Int) (x y : Nat) (rows : List Int) : (drawn page x y rows).2.length = page.length := eachK_length ..
theorem draw_spec {Γ : Ctx} (hP : Γ.P = Tryz.prog) {L : Hp} {gp : Nat} {g : GM} {sv pv mv : Value} {o : Ord} {f : Fnt} {fv : Value} {d : Feed} {q1 q2 q3 : Slot} (hg : OkG g) (hr : Rows g sv pv mv q1 q2 q3) (ho : OkO o) (hx : o.x < 16) (hy : o.y < 16) (hd : OkD d) (hn : o.n < 16) (hml : g.mm.length = 3232) (hpl : g.pg.length = 256) (hf : SlI .u8 (Cell Γ L) fv f.bs) (hfl : f.bs.length ≤ 65536) (hfr : 0 ≤ f.from_ ∧ f.from_ ≤ 65535) :
  SCall Γ 53 #[(.pointer (some ⟨gp,0,none⟩))] (PS gp g sv pv mv o f fv d :: q1 :: q2 :: q3 :: L) (mres gp o f fv d L (drawG g o f)) := by
 have hbx := byte_at hg.Vb o.x
 have hby := byte_at hg.Vb o.y
 have hob := ho.b
 have hoa := ho.a
 have hox := ho.x
 have hPCb := hg.PC
 have hIb := hg.I
 have hrb := hd.rnd
 have hkb := hd.keys
 have hdl := hg.dl
 have hsd := hg.sd
 refine SCall.enter (n := 48) (res1 2) (hP ▸ Tryz.func53) rfl rfl (by simp) (res1_ok rfl) ?_
 refine SX.seq_k fun K1 hK1=>?_
 refine SX.region_d [some 2] rfl (fun ops hops=>?_)
 unfold Dsts at hops
 simp (dsimp:=false)(disch:=omega) only [go_sem,Φa,hP,hops]
 repeat' ((first | refine ⟨_,Cell.at 0 rfl rfl,?_⟩ | refine ⟨0,_,_,_,rfl,(by rw [pcells_length]; omega),.inr (by first | decide | exact Nat.zero_le _),?_⟩ | fail); try refine stI ?_; try simp (dsimp:=false)(disch:=omega) only [go_sem,Φa,hP,hops])
 refine hK1 _ _ ?_
 try clear hK1 K1
 refine SX.seq_k fun K2 hK2=>?_
 refine SX.region_d [some 9,some 10,some 11,some 12,some 13,some 14,some 15,some 16,some 8,some 17,some 18,some 3,some 4] rfl (fun ops hops=>?_)
 unfold Dsts at hops
 simp (dsimp:=false)(disch:=omega) only [go_sem,Φa,hP,hops]
 refine ⟨_,Cell.at 0 rfl (show (pcells _ _ _ _ _ _ _ _)[26]? = _ from rfl),?_⟩
 try refine stI ?_
 try simp (dsimp:=false)(disch:=omega) only [go_sem,Φa,hP,hops]
 refine SCall.mono (row_spec (n := o.n) hP (by omega) hg (RowI.sl (i := 3) hr.mm rfl) (SlI.cons _ (SlI.cons _ (SlI.cons _ (SlI.cons _ hf)))) hml hfl hfr) ?_
 intro v_ L_ hl_
 try refine stI ?_
 try simp (dsimp:=false)(disch:=omega) only [go_sem,Φa,hP,hops]
 unfold rowR at hl_
 rcases hrow : rowG g f (o.n) with _ | rows
 ·skip
  try refine stI ?_
  rw [hrow] at hl_
  obtain ⟨rfl,rfl⟩ := hl_
  try refine stI ?_
  try simp (dsimp:=false)(disch:=omega) only [go_sem,Φa,hP,hops]
  refine hK2 _ _ ?_
  try clear hK2 K2
  refine SX.live [0,3,4] (fun T1 hT1=>?_)
  simp only [forall_mem_cons',forall_mem_nil',go_sem,Φa,hP] at hT1
  obtain ⟨h1_0,h1_3,h1_4⟩ := hT1
  refine SX.seq_k fun K3 hK3=>?_
  refine SX.seq_k fun K4 hK4=>?_
  refine SX.region_d [some 19,some 20] rfl (fun ops hops=>?_)
  unfold Dsts at hops
  simp (dsimp:=false)(disch:=omega) only [go_sem,Φa,hP,h1_0,h1_3,h1_4,hops]
  repeat' ((first | refine ⟨_,Cell.at 0 rfl rfl,?_⟩ | refine ⟨0,_,_,_,rfl,(by rw [pcells_length]; omega),.inr (by first | decide | exact Nat.zero_le _),?_⟩ | fail); try refine stI ?_; try simp (dsimp:=false)(disch:=omega) only [go_sem,Φa,hP,h1_0,h1_3,h1_4,hops])
  refine hK4 _ _ ?_
  try clear hK4 K4
  refine SX.cond_k fun X5 Y5 hX5 hY5=>?_
  simp (dsimp:=false)(disch:=omega) only [go_sem,Φa,hP,h1_0,h1_3,h1_4,condVC]
  refine hX5 ?_
  clear hX5 hY5 X5 Y5
  refine SX.seq_k fun K6 hK6=>?_
  refine SX.region_d [some 2] rfl (fun ops hops=>?_)
  unfold Dsts at hops
  simp (dsimp:=false)(disch:=omega) only [go_sem,Φa,hP,h1_0,h1_3,h1_4,hops]
  repeat' ((first | refine ⟨_,Cell.at 0 rfl rfl,?_⟩ | refine ⟨0,_,_,_,rfl,(by rw [pcells_length]; omega),.inr (by first | decide | exact Nat.zero_le _),?_⟩ | fail); try refine stI ?_; try simp (dsimp:=false)(disch:=omega) only [go_sem,Φa,hP,h1_0,h1_3,h1_4,hops])
  refine hK6 _ _ ?_
  try clear hK6 K6
  refine SX.ret ?_
  simp only [andThen_normal,andThen_ret,andThen_exit,inBlk_normal,inBlk_ret,inBlk_exit,Nat.reduceEqDiff,if_true,if_false,↓reduceIte,retQ_ret]
  try simp only [res0,res1,res2,res3,stK_e,go_sem,Φa,hP,h1_0,h1_3,h1_4]
  refine ⟨_,_,Less.refl _,rfl,?_⟩
  unfold drawG
  rw [hrow]
  exact ⟨rfl,sv,pv,mv,q1,q2,q3,rfl,hr⟩
 skip
 try refine stI ?_
 rw [hrow] at hl_
 obtain ⟨v1,s1,rfl,rfl,hr1⟩ := hl_
 try refine stI ?_
 try simp (dsimp:=false)(disch:=omega) only [go_sem,Φa,hP,hops]
 refine hK2 _ _ ?_
 try clear hK2 K2
 refine SX.live [0,3,4] (fun T2 hT2=>?_)
 simp only [forall_mem_cons',forall_mem_nil',go_sem,Φa,hP] at hT2
 obtain ⟨h2_0,h2_3,h2_4⟩ := hT2
 refine SX.seq_k fun K7 hK7=>?_
 refine SX.seq_k fun K8 hK8=>?_
 refine SX.region_d [some 19,some 20] rfl (fun ops hops=>?_)
 unfold Dsts at hops
 simp (dsimp:=false)(disch:=omega) only [go_sem,Φa,hP,h2_0,h2_3,h2_4,hops]
 repeat' ((first | refine ⟨_,Cell.at 0 rfl rfl,?_⟩ | refine ⟨0,_,_,_,rfl,(by rw [pcells_length]; omega),.inr (by first | decide | exact Nat.zero_le _),?_⟩ | fail); try refine stI ?_; try simp (dsimp:=false)(disch:=omega) only [go_sem,Φa,hP,h2_0,h2_3,h2_4,hops])
 refine hK8 _ _ ?_
 try clear hK8 K8
 refine SX.cond_k fun X9 Y9 hX9 hY9=>?_
 simp (dsimp:=false)(disch:=omega) only [go_sem,Φa,hP,h2_0,h2_3,h2_4,condVC]
 refine hY9 ?_
 clear hX9 hY9 X9 Y9
 refine SX.skip ?_
 try simp only [andThen_normal,andThen_ret,andThen_exit,inBlk_normal,inBlk_ret,inBlk_exit,Nat.reduceEqDiff,if_true,if_false,↓reduceIte]
 refine hK7 _ _ ?_
 try clear hK7 K7
 refine SX.seq_k fun K10 hK10=>?_
 obtain ⟨X,hX⟩ : ∃ X : Nat,g.V.getD o.x 0 = (X : Int) := ⟨_,(Int.toNat_of_nonneg hbx.1).symm⟩
 obtain ⟨Y,hY⟩ : ∃ Y : Nat,g.V.getD o.y 0 = (Y : Int) := ⟨_,(Int.toNat_of_nonneg hby.1).symm⟩
 have hrl := rowG_length hrow
 refine SX.drawn_d [(0,.q),(1,.q),(2,.q),(3,.q),(4,.q),(5,.q),(7,.q),(9,.q),(6,.e),(8,.e),(10,.e),(11,.q),(12,.q),(13,.q),(14,.q),(15,.q),(16,.q),(17,.q)] (fun L=>L) (hP ▸ T.mixed) (by kernel_rfl) (by exact Less.refl _) [some 22,some 23,some 24,some 25,some 26,some 27,some 28,some 29,some 30,some 31,some 32,some 21,some 33,some 34,some 35,some 5,some 6,some 7] rfl (fun ops hops hopl=>?_)
 unfold Dsts at hops
 simp (dsimp:=false)(disch:=omega) only [go_sem,Φa,hP,h2_0,h2_3,h2_4,hops,hopl,hX,hY]
 refine ⟨_,Cell.at 1 rfl (show (pcells _ _ _ _ _ _ _ _)[21]? = _ from rfl),?_⟩
 try refine stI ?_
 try simp (dsimp:=false)(disch:=omega) only [go_sem,Φa,hP,h2_0,h2_3,h2_4,hops,hopl,hX,hY]
 first | (refine SCall.mono (x_spec (i := 1) hP rfl hx) ?_; rintro v_ L_ ⟨hv_,hL_⟩; rw [hv_,hL_]; clear hv_ hL_ v_ L_) | refine ⟨_,x_spec (i := 1) hP rfl hx,?_⟩ | refine ⟨_,fun L0 hl0=>x_spec (i := 1) hP rfl hx,?_⟩
 try refine stI ?_
 try simp (dsimp:=false)(disch:=omega) only [go_sem,Φa,hP,h2_0,h2_3,h2_4,hops,hopl,hX,hY]
 first | (refine SCall.mono (y_spec (i := 1) hP rfl hy) ?_; rintro v_ L_ ⟨hv_,hL_⟩; rw [hv_,hL_]; clear hv_ hL_ v_ L_) | refine ⟨_,y_spec (i := 1) hP rfl hy,?_⟩ | refine ⟨_,fun L0 hl0=>y_spec (i := 1) hP rfl hy,?_⟩
 try refine stI ?_
 try simp (dsimp:=false)(disch:=omega) only [go_sem,Φa,hP,h2_0,h2_3,h2_4,hops,hopl,hX,hY]
 refine SCall.mono (Draw_spec (x := X) (y := Y) hP (by omega) (by omega) (RowI.sl (i := 3) hr.pg rfl) (RowI.sl (i := 0) hr1 rfl) (by omega)) ?_
 intro v_ L_ hl_
 try refine stI ?_
 try simp (dsimp:=false)(disch:=omega) only [go_sem,Φa,hP,h2_0,h2_3,h2_4,hops,hopl,hX,hY]
 rw [drawR,if_pos (by omega)] at hl_
 obtain ⟨rr,cap,junk,hcap,hjl,rfl,rfl⟩ := hl_
 try refine stI ?_
 try simp (dsimp:=false)(disch:=omega) only [go_sem,Φa,hP,h2_0,h2_3,h2_4,hops,hopl,hX,hY]
 refine hK10 _ _ ?_
 try clear hK10 K10
 refine SX.live [0,5,6] (fun T3 hT3=>?_)
 simp only [forall_mem_cons',forall_mem_nil',go_sem,Φa,hP,h2_0,h2_3,h2_4] at hT3
 obtain ⟨h3_0,h3_5,h3_6⟩ := hT3
 clear h2_0 h2_3 h2_4 T2
 refine SX.seq_k fun K11 hK11=>?_
 refine SX.region_d [some 36,some 37,some 38,some 39,some 40,none] rfl (fun ops hops=>?_)
 unfold Dsts at hops
 simp (dsimp:=false)(disch:=omega) only [go_sem,Φa,hP,h3_0,h3_5,h3_6,hops]
 refine ⟨2,_,_,_,rfl,(by rw [pcells_length]; omega),.inr (by decide),?_⟩
 try refine stI ?_
 try simp (dsimp:=false)(disch:=omega) only [go_sem,Φa,hP,h3_0,h3_5,h3_6,hops]
 rw [set_pg (drawn g.pg X Y rows).2]
 refine hK11 _ _ ?_
 try clear hK11 K11
 refine SX.seq_k fun K12 hK12=>?_
 refine SX.drawn_d [(0,.q),(1,.q),(3,.q),(4,.q),(5,.q),(2,.e),(6,.q),(7,.t)] (fun L=>L) (hP ▸ T.mixed) (by kernel_rfl) (by exact Less.refl _) [some 41,some 42,some 43,some 44,some 45,some 46,some 47,none] rfl (fun ops hops hopl=>?_)
 unfold Dsts at hops
 simp (dsimp:=false)(disch:=omega) only [go_sem,Φa,hP,h3_0,h3_5,h3_6,hops,hopl]
 first | (refine SCall.mono (truth_spec hP _) ?_; rintro v_ L_ ⟨hv_,hL_⟩; rw [hv_,hL_]; clear hv_ hL_ v_ L_) | refine ⟨_,truth_spec hP _,?_⟩ | refine ⟨_,fun L0 hl0=>truth_spec hP _,?_⟩
 try refine stI ?_
 try simp (dsimp:=false)(disch:=omega) only [go_sem,Φa,hP,h3_0,h3_5,h3_6,hops,hopl]
 refine ⟨2,_,_,_,rfl,(by rw [pcells_length]; omega),.inr (by decide),?_⟩
 try refine stI ?_
 try simp (dsimp:=false)(disch:=omega) only [go_sem,Φa,hP,h3_0,h3_5,h3_6,hops,hopl]
 rw [pV_set (g := { g with pg := (drawn g.pg X Y rows).2 }) hg.V (by decide)]
 refine hK12 _ _ ?_
 try clear hK12 K12
 refine SX.live [] (fun T4 hT4=>?_)
 clear hT4
 clear h3_0 h3_5 h3_6 T3
 refine SX.seq_k fun K13 hK13=>?_
 refine SX.region_d [some 2] rfl (fun ops hops=>?_)
 unfold Dsts at hops
 simp (dsimp:=false)(disch:=omega) only [go_sem,Φa,hP,hops]
 repeat' ((first | refine ⟨_,Cell.at 0 rfl rfl,?_⟩ | refine ⟨0,_,_,_,rfl,(by rw [pcells_length]; omega),.inr (by first | decide | exact Nat.zero_le _),?_⟩ | fail); try refine stI ?_; try simp (dsimp:=false)(disch:=omega) only [go_sem,Φa,hP,hops])
 refine hK13 _ _ ?_
 try clear hK13 K13
 refine SX.ret ?_
 simp only [andThen_normal,andThen_ret,andThen_exit,inBlk_normal,inBlk_ret,inBlk_exit,Nat.reduceEqDiff,if_true,if_false,↓reduceIte,retQ_ret]
 try simp only [res0,res1,res2,res3,stK_e,go_sem,Φa,hP]
 refine ⟨_,_,(lessPut _ 3 _).trans (Less.drop _ _),rfl,?_⟩
 unfold drawG vG
 rw [hrow,hX,hY]
 refine ⟨rfl,sv,_,mv,q1,_,q3,rfl,⟨hr.st,?_,hr.mm⟩⟩
 have hd := drawn_length g.pg X Y rows
 have := RowI.mk2 (k := .u8) (e := 5) (l := (drawn g.pg X Y rows).2) (r := rr) (cap := cap) (junk := junk) (by omega) (by omega)
 rw [hd,hpl] at this
 exact this
theorem fill_spec {Γ : Ctx} (hP : Γ.P = Tryz.prog) {L : Hp} {gp : Nat} {g : GM} {sv pv mv : Value} {o : Ord} {f : Fnt} {fv : Value} {d : Feed} {q1 q2 q3 : Slot} (hg : OkG g) (hr : Rows g sv pv mv q1 q2 q3) (ho : OkO o) (hx : o.x < 16) (hy : o.y < 16) (hd : OkD d) (hn : o.n < 16) (hml : g.mm.length = 3232) (hpl : g.pg.length = 256) (hf : SlI .u8 (Cell Γ L) fv f.bs) (hfl : f.bs.length ≤ 65536) (hfr : 0 ≤ f.from_ ∧ f.from_ ≤ 65535) :
  SCall Γ 64 #[(.pointer (some ⟨gp,0,none⟩))] (PS gp g sv pv mv o f fv d :: q1 :: q2 :: q3 :: L) (mres gp o f fv d L (fillG g o f)) := by
 have hbx := byte_at hg.Vb o.x
 have hby := byte_at hg.Vb o.y
 have hob := ho.b
 have hoa := ho.a
 have hox := ho.x
 have hPCb := hg.PC
 have hIb := hg.I
 have hrb := hd.rnd
 have hkb := hd.keys
 have hdl := hg.dl
 have hsd := hg.sd
 refine SCall.enter (n := 28) (res1 2) (hP ▸ Tryz.func64) rfl rfl (by simp) (res1_ok rfl) ?_
 refine SX.seq_k fun K1 hK1=>?_
 refine SX.region_d [some 2] rfl (fun ops hops=>?_)
 unfold Dsts at hops
 simp (dsimp:=false)(disch:=omega) only [go_sem,Φa,hP,hops]
 repeat' ((first | refine ⟨_,Cell.at 0 rfl rfl,?_⟩ | refine ⟨0,_,_,_,rfl,(by rw [pcells_length]; omega),.inr (by first | decide | exact Nat.zero_le _),?_⟩ | fail); try refine stI ?_; try simp (dsimp:=false)(disch:=omega) only [go_sem,Φa,hP,hops])
 refine hK1 _ _ ?_
 try clear hK1 K1
 refine SX.seq_k fun K2 hK2=>?_
 refine SX.region_d [some 6,some 7,some 8,some 9,some 10,some 11,some 12,some 13,some 14,some 5,some 15,some 16,some 3,some 4] rfl (fun ops hops=>?_)
 unfold Dsts at hops
 simp (dsimp:=false)(disch:=omega) only [go_sem,Φa,hP,hops]
 refine ⟨_,Cell.at 0 rfl (show (pcells _ _ _ _ _ _ _ _)[24]? = _ from rfl),?_⟩
 try refine stI ?_
 try simp (dsimp:=false)(disch:=omega) only [go_sem,Φa,hP,hops]
 refine SCall.mono (row_spec (n := o.x + 1) hP (by omega) hg (RowI.sl (i := 3) hr.mm rfl) (SlI.cons _ (SlI.cons _ (SlI.cons _ (SlI.cons _ hf)))) hml hfl hfr) ?_
 intro v_ L_ hl_
 try refine stI ?_
 try simp (dsimp:=false)(disch:=omega) only [go_sem,Φa,hP,hops]
 unfold rowR at hl_
 rcases hrow : rowG g f (o.x + 1) with _ | rows
 ·skip
  try refine stI ?_
  rw [hrow] at hl_
  obtain ⟨rfl,rfl⟩ := hl_
  try refine stI ?_
  try simp (dsimp:=false)(disch:=omega) only [go_sem,Φa,hP,hops]
  refine hK2 _ _ ?_
  try clear hK2 K2
  refine SX.live [0,3,4] (fun T1 hT1=>?_)
  simp only [forall_mem_cons',forall_mem_nil',go_sem,Φa,hP] at hT1
  obtain ⟨h1_0,h1_3,h1_4⟩ := hT1
  refine SX.seq_k fun K3 hK3=>?_
  refine SX.seq_k fun K4 hK4=>?_
  refine SX.region_d [some 17,some 18] rfl (fun ops hops=>?_)
  unfold Dsts at hops
  simp (dsimp:=false)(disch:=omega) only [go_sem,Φa,hP,h1_0,h1_3,h1_4,hops]
  repeat' ((first | refine ⟨_,Cell.at 0 rfl rfl,?_⟩ | refine ⟨0,_,_,_,rfl,(by rw [pcells_length]; omega),.inr (by first | decide | exact Nat.zero_le _),?_⟩ | fail); try refine stI ?_; try simp (dsimp:=false)(disch:=omega) only [go_sem,Φa,hP,h1_0,h1_3,h1_4,hops])
  refine hK4 _ _ ?_
  try clear hK4 K4
  refine SX.cond_k fun X5 Y5 hX5 hY5=>?_
  simp (dsimp:=false)(disch:=omega) only [go_sem,Φa,hP,h1_0,h1_3,h1_4,condVC]
  refine hX5 ?_
  clear hX5 hY5 X5 Y5
  refine SX.seq_k fun K6 hK6=>?_
  refine SX.region_d [some 2] rfl (fun ops hops=>?_)
  unfold Dsts at hops
  simp (dsimp:=false)(disch:=omega) only [go_sem,Φa,hP,h1_0,h1_3,h1_4,hops]
  repeat' ((first | refine ⟨_,Cell.at 0 rfl rfl,?_⟩ | refine ⟨0,_,_,_,rfl,(by rw [pcells_length]; omega),.inr (by first | decide | exact Nat.zero_le _),?_⟩ | fail); try refine stI ?_; try simp (dsimp:=false)(disch:=omega) only [go_sem,Φa,hP,h1_0,h1_3,h1_4,hops])
  refine hK6 _ _ ?_
  try clear hK6 K6
  refine SX.ret ?_
  simp only [andThen_normal,andThen_ret,andThen_exit,inBlk_normal,inBlk_ret,inBlk_exit,Nat.reduceEqDiff,if_true,if_false,↓reduceIte,retQ_ret]
  try simp only [res0,res1,res2,res3,stK_e,go_sem,Φa,hP,h1_0,h1_3,h1_4]
  refine ⟨_,_,Less.refl _,rfl,?_⟩
  unfold fillG
  rw [hrow]
  exact ⟨rfl,sv,pv,mv,q1,q2,q3,rfl,hr⟩
 skip
 try refine stI ?_
 rw [hrow] at hl_
 obtain ⟨v1,s1,rfl,rfl,hr1⟩ := hl_
 try refine stI ?_
 try simp (dsimp:=false)(disch:=omega) only [go_sem,Φa,hP,hops]
 refine hK2 _ _ ?_
 try clear hK2 K2
 refine SX.live [0,3,4] (fun T2 hT2=>?_)
 simp only [forall_mem_cons',forall_mem_nil',go_sem,Φa,hP] at hT2
 obtain ⟨h2_0,h2_3,h2_4⟩ := hT2
 refine SX.seq_k fun K7 hK7=>?_
 refine SX.seq_k fun K8 hK8=>?_
 refine SX.region_d [some 17,some 18] rfl (fun ops hops=>?_)
 unfold Dsts at hops
 simp (dsimp:=false)(disch:=omega) only [go_sem,Φa,hP,h2_0,h2_3,h2_4,hops]
 repeat' ((first | refine ⟨_,Cell.at 0 rfl rfl,?_⟩ | refine ⟨0,_,_,_,rfl,(by rw [pcells_length]; omega),.inr (by first | decide | exact Nat.zero_le _),?_⟩ | fail); try refine stI ?_; try simp (dsimp:=false)(disch:=omega) only [go_sem,Φa,hP,h2_0,h2_3,h2_4,hops])
 refine hK8 _ _ ?_
 try clear hK8 K8
 refine SX.cond_k fun X9 Y9 hX9 hY9=>?_
 simp (dsimp:=false)(disch:=omega) only [go_sem,Φa,hP,h2_0,h2_3,h2_4,condVC]
 refine hY9 ?_
 clear hX9 hY9 X9 Y9
 refine SX.skip ?_
 try simp only [andThen_normal,andThen_ret,andThen_exit,inBlk_normal,inBlk_ret,inBlk_exit,Nat.reduceEqDiff,if_true,if_false,↓reduceIte]
 refine hK7 _ _ ?_
 try clear hK7 K7
 refine SX.seq_k fun K10 hK10=>?_
 have hrl := rowG_length hrow
 have hc16 : cutA (some ⟨gp,0,none⟩) 1 16 0 = some ⟨gp,0,none⟩ := cutA_lt (by omega)
 obtain ⟨rr,cap,junk,rfl,rfl,hcap,hjl⟩ := RowI.form2 hr1 (by omega)
 have hmin : min rows.length 16 = rows.length := by omega
 refine SX.region_d [some 19,some 20,some 21,some 22,some 23,some 24,some 25] rfl (fun ops hops=>?_)
 unfold Dsts at hops
 simp (dsimp:=false)(disch:=omega) only [go_sem,Φa,hP,h2_0,h2_3,h2_4,hops,hc16,Nat.sub_zero]
 refine YCopy.cells (i := 1) (src := SX.ints .u8 rows) (sz := 1) (hP ▸ T.elS_25) (by rw [ints_length,Nat.mul_one]) (fun j u hj=>⟨_,rfl,by
   rw [Addr.add_lit,Nat.zero_add]
   exact Cell.at 0 rfl (by rw [List.getElem?_append_left (List.getElem?_eq_some_iff.1 hj).1]; exact hj)⟩) (ints_oneB _ _) rfl (by rw [hmin,pcells_length]; omega) (.inr (Nat.zero_le _)) ?_
 rw [hmin,Nat.mul_one,List.take_of_length_le (by rw [ints_length]; exact Nat.le_refl _),pV_all hg.V (by omega)]
 try refine stI ?_
 try simp (dsimp:=false)(disch:=omega) only [go_sem,Φa,hP,h2_0,h2_3,h2_4,hops,hc16,Nat.sub_zero]
 refine hK10 _ _ ?_
 try clear hK10 K10
 refine SX.live [0] (fun T3 hT3=>?_)
 simp only [forall_mem_cons',forall_mem_nil',go_sem,Φa,hP,h2_0,h2_3,h2_4] at hT3
 have h3_0 := hT3; clear hT3
 clear h2_0 h2_3 h2_4 T2
 refine SX.seq_k fun K11 hK11=>?_
 refine SX.region_d [some 26,some 27,some 2] rfl (fun ops hops=>?_)
 unfold Dsts at hops
 simp (dsimp:=false)(disch:=omega) only [go_sem,Φa,hP,h3_0,hops]
 refine SCall.mono (SCall.of_less (Less.drop _ _) (behind_spec (g := { g with V := spliceL g.V 0 rows }) hP hx)) ?_
 rintro v_ L_ ⟨hv_,hL_⟩
 rw [hv_,hL_]
 clear hv_ hL_ v_ L_
 try refine stI ?_
 try simp (dsimp:=false)(disch:=omega) only [go_sem,Φa,hP,h3_0,hops]
 refine hK11 _ _ ?_
 try clear hK11 K11
 refine SX.ret ?_
 simp only [andThen_normal,andThen_ret,andThen_exit,inBlk_normal,inBlk_ret,inBlk_exit,Nat.reduceEqDiff,if_true,if_false,↓reduceIte,retQ_ret]
 try simp only [res0,res1,res2,res3,stK_e,go_sem,Φa,hP,h3_0]
 refine ⟨_,_,Less.refl _,rfl,?_⟩
 unfold fillG
 rw [hrow]
 exact ⟨rfl,sv,pv,mv,q1,q2,q3,rfl,⟨hr.st,hr.pg,hr.mm⟩⟩


end Go.Proofs.YtgioegdjeodpiaaGreat
namespace Go.Proofs.YtgioegdjeodpiaaGreat
open Go.RowKit Go.SX

def doG (g : GM) (o : Ord) (f : Fnt) (d : Feed) : Int × GM := match o.op with
 | 2=>(1,{ g with pg := List.replicate 256 0 })
 | 3=>backG g
 | 4=>(1,{ g with PC := (o.a : Int) })
 | 5=>callG g o
 | 6=>skipG g (decide (vG g o.x = (o.b : Int)))
 | 7=>skipG g (!decide (vG g o.x = (o.b : Int)))
 | 8=>skipG g (decide (vG g o.x = vG g o.y))
 | 9=>letG g o (o.b : Int)
 | 10=>letG g o (IntKind.u8.wrap (vG g o.x + (o.b : Int)))
 | 11=>letG g o (vG g o.y)
 | 12=>flagG g o (bits .or .u8 (vG g o.x) (vG g o.y)) 0
 | 13=>flagG g o (bits .and .u8 (vG g o.x) (vG g o.y)) 0
 | 14=>plusG g o
 | 15=>minusG g o
 | 16=>skipG g (!decide (vG g o.x = vG g o.y))
 | 17=>(1,{ g with I := (o.a : Int) })
 | 18=>(1,{ g with PC := IntKind.u16.wrap ((o.a : Int) + vG g 0) })
 | 19=>letG g o (bits .and .u8 d.rnd (o.b : Int))
 | 20=>drawG g o f
 | 21=>skipG g (downG g o d)
 | 22=>skipG g (!downG g o d)
 | 23=>letG g o g.dl
 | 24=>keyG g o d
 | 25=>(1,{ g with dl := vG g o.x })
 | 26=>(1,{ g with sd := vG g o.x })
 | 27=>(1,{ g with I := IntKind.u16.wrap (g.I + vG g o.x) })
 | 28=>(1,{ g with I := f.at_.getD (vG g o.x % 16).toNat 0 })
 | 29=>threeG g o
 | 30=>storeG g o
 | 31=>fillG g o f
 | _=>(0,g)
theorem do_spec {Γ : Ctx} (hP : Γ.P = Tryz.prog) {L : Hp} {gp : Nat} {g : GM} {sv pv mv : Value} {o : Ord} {f : Fnt} {fv : Value} {d : Feed} {q1 q2 q3 : Slot} (hg : OkG g) (hr : Rows g sv pv mv q1 q2 q3) (ho : OkO o) (hx : o.x < 16) (hy : o.y < 16) (hd : OkD d) (hst : g.st.length ≤ 12) (hn : o.n < 16) (hml : g.mm.length = 3232) (hpl : g.pg.length = 256) (hf : SlI .u8 (Cell Γ L) fv f.bs) (hfl : f.bs.length ≤ 65536) (hfr : 0 ≤ f.from_ ∧ f.from_ ≤ 65535) (h2 : 2 ≤ o.op) (h31 : o.op ≤ 31) : SCall Γ (33 + o.op) #[(.pointer (some ⟨gp,0,none⟩))] (PS gp g sv pv mv o f fv d :: q1 :: q2 :: q3 :: L) (mres gp o f fv d L (doG g o f d)) := by
 have h : o.op = 2 ∨ o.op = 3 ∨ o.op = 4 ∨ o.op = 5 ∨ o.op = 6 ∨ o.op = 7 ∨ o.op = 8 ∨ o.op = 9 ∨ o.op = 10 ∨ o.op = 11 ∨ o.op = 12 ∨ o.op = 13 ∨ o.op = 14 ∨ o.op = 15 ∨ o.op = 16 ∨ o.op = 17 ∨ o.op = 18 ∨ o.op = 19 ∨ o.op = 20 ∨ o.op = 21 ∨ o.op = 22 ∨ o.op = 23 ∨ o.op = 24 ∨ o.op = 25 ∨ o.op = 26 ∨ o.op = 27 ∨ o.op = 28 ∨ o.op = 29 ∨ o.op = 30 ∨ o.op = 31 := by omega
 unfold doG
 rcases h with h | h | h | h | h | h | h | h | h | h | h | h | h | h | h | h | h | h | h | h | h | h | h | h | h | h | h | h | h | h <;> rw [h]
 ·exact clear_spec hP hg hr ho hx hy hd 
 ·exact back_spec hP hg hr ho hx hy hd hst
 ·exact jump_spec hP hg hr ho hx hy hd 
 ·exact call_spec hP hg hr ho hx hy hd hst
 ·exact skipIs_spec hP hg hr ho hx hy hd 
 ·exact skipNot_spec hP hg hr ho hx hy hd 
 ·exact skipSame_spec hP hg hr ho hx hy hd 
 ·exact set_spec hP hg hr ho hx hy hd 
 ·exact add_spec hP hg hr ho hx hy hd 
 ·exact move_spec hP hg hr ho hx hy hd 
 ·exact or_spec hP hg hr ho hx hy hd 
 ·exact and_spec hP hg hr ho hx hy hd 
 ·exact plus_spec hP hg hr ho hx hy hd 
 ·exact minus_spec hP hg hr ho hx hy hd 
 ·exact skipOther_spec hP hg hr ho hx hy hd 
 ·exact point_spec hP hg hr ho hx hy hd 
 ·exact jumpBy_spec hP hg hr ho hx hy hd 
 ·exact random_spec hP hg hr ho hx hy hd 
 ·exact draw_spec hP hg hr ho hx hy hd hn hml hpl hf hfl hfr
 ·exact skipDown_spec hP hg hr ho hx hy hd 
 ·exact skipUp_spec hP hg hr ho hx hy hd 
 ·exact timer_spec hP hg hr ho hx hy hd 
 ·exact key_spec hP hg hr ho hx hy hd 
 ·exact delay_spec hP hg hr ho hx hy hd 
 ·exact sound_spec hP hg hr ho hx hy hd 
 ·exact on_spec hP hg hr ho hx hy hd 
 ·exact digit_spec hP hg hr ho hx hy hd 
 ·exact three_spec hP hg hr ho hx hy hd hml
 ·exact store_spec hP hg hr ho hx hy hd hml
 exact fill_spec hP hg hr ho hx hy hd hn hml hpl hf hfl hfr
def deedT : List MapEntry := [{ key := .int .u8 2,val := .func (.func 35) #[] #[],born := 0 },{ key := .int .u8 3,val := .func (.func 36) #[] #[],born := 1 },{ key := .int .u8 4,val := .func (.func 37) #[] #[],born := 2 },{ key := .int .u8 5,val := .func (.func 38) #[] #[],born := 3 },{ key := .int .u8 6,val := .func (.func 39) #[] #[],born := 4 },{ key := .int .u8 7,val := .func (.func 40) #[] #[],born := 5 },{ key := .int .u8 8,val := .func (.func 41) #[] #[],born := 6 },{ key := .int .u8 9,val := .func (.func 42) #[] #[],born := 7 },{ key := .int .u8 10,val := .func (.func 43) #[] #[],born := 8 },{ key := .int .u8 11,val := .func (.func 44) #[] #[],born := 9 },{ key := .int .u8 12,val := .func (.func 45) #[] #[],born := 10 },{ key := .int .u8 13,val := .func (.func 46) #[] #[],born := 11 },{ key := .int .u8 14,val := .func (.func 47) #[] #[],born := 12 },{ key := .int .u8 15,val := .func (.func 48) #[] #[],born := 13 },{ key := .int .u8 16,val := .func (.func 49) #[] #[],born := 14 },{ key := .int .u8 17,val := .func (.func 50) #[] #[],born := 15 },{ key := .int .u8 18,val := .func (.func 51) #[] #[],born := 16 },{ key := .int .u8 19,val := .func (.func 52) #[] #[],born := 17 },{ key := .int .u8 20,val := .func (.func 53) #[] #[],born := 18 },{ key := .int .u8 21,val := .func (.func 54) #[] #[],born := 19 },{ key := .int .u8 22,val := .func (.func 55) #[] #[],born := 20 },{ key := .int .u8 23,val := .func (.func 56) #[] #[],born := 21 },{ key := .int .u8 24,val := .func (.func 57) #[] #[],born := 22 },{ key := .int .u8 25,val := .func (.func 58) #[] #[],born := 23 },{ key := .int .u8 26,val := .func (.func 59) #[] #[],born := 24 },{ key := .int .u8 27,val := .func (.func 60) #[] #[],born := 25 },{ key := .int .u8 28,val := .func (.func 61) #[] #[],born := 26 },{ key := .int .u8 29,val := .func (.func 62) #[] #[],born := 27 },{ key := .int .u8 30,val := .func (.func 63) #[] #[],born := 28 },{ key := .int .u8 31,val := .func (.func 64) #[] #[],born := 29 }]
set_option maxHeartbeats 1000000 in
set_option maxRecDepth 100000 in
theorem deeds_spec {Γ : Ctx} (hP : Γ.P = Tryz.prog) {L : Hp}  :
  SCall Γ 26 #[] L (fun v L'=>∃ b,v = .map (some b) ∧ L' = some (b,.map deedT.toArray 30) :: L) := by
 refine SCall.enter (n := 3) (res1 0) (hP ▸ Tryz.func26) rfl rfl (by simp) (res1_ok rfl) ?_
 refine SX.seq_k fun K1 hK1=>?_
 refine SX.region_d [some 0] rfl (fun ops hops=>?_)
 unfold Dsts at hops
 simp (dsimp:=false)(disch:=omega) only [go_sem,ia_someH,hP,hops]
 refine hK1 _ _ ?_
 try clear hK1 K1
 refine SX.seq_k fun K2 hK2=>?_
 refine SX.region_d [some 1,none,none,none,none,none,none,none,none,none,none,none,none,none,none,none,none,none,none,none,none,none,none,none,none,none,none,none,none,none,none,some 2,some 0] rfl (fun ops hops=>?_)
 unfold Dsts at hops
 simp (dsimp:=false)(disch:=omega) only [go_sem,ia_someH,hP,hops,mapPut,List.nil_append,List.cons_append]
 intro bm
 try refine stI ?_
 try simp (dsimp:=false)(disch:=omega) only [go_sem,ia_someH,hP,hops,mapPut,List.nil_append,List.cons_append]
 refine ⟨_,_,rfl,0,_,_,rfl,_,rfl,?_⟩
 try refine stI ?_
 try simp (dsimp:=false)(disch:=omega) only [go_sem,ia_someH,hP,hops,mapPut,List.nil_append,List.cons_append]
 refine ⟨_,_,rfl,0,_,_,rfl,_,rfl,?_⟩
 try refine stI ?_
 try simp (dsimp:=false)(disch:=omega) only [go_sem,ia_someH,hP,hops,mapPut,List.nil_append,List.cons_append]
 refine ⟨_,_,rfl,0,_,_,rfl,_,rfl,?_⟩
 try refine stI ?_
 try simp (dsimp:=false)(disch:=omega) only [go_sem,ia_someH,hP,hops,mapPut,List.nil_append,List.cons_append]
 refine ⟨_,_,rfl,0,_,_,rfl,_,rfl,?_⟩
 try refine stI ?_
 try simp (dsimp:=false)(disch:=omega) only [go_sem,ia_someH,hP,hops,mapPut,List.nil_append,List.cons_append]
 refine ⟨_,_,rfl,0,_,_,rfl,_,rfl,?_⟩
 try refine stI ?_
 try simp (dsimp:=false)(disch:=omega) only [go_sem,ia_someH,hP,hops,mapPut,List.nil_append,List.cons_append]
 refine ⟨_,_,rfl,0,_,_,rfl,_,rfl,?_⟩
 try refine stI ?_
 try simp (dsimp:=false)(disch:=omega) only [go_sem,ia_someH,hP,hops,mapPut,List.nil_append,List.cons_append]
 refine ⟨_,_,rfl,0,_,_,rfl,_,rfl,?_⟩
 try refine stI ?_
 try simp (dsimp:=false)(disch:=omega) only [go_sem,ia_someH,hP,hops,mapPut,List.nil_append,List.cons_append]
 refine ⟨_,_,rfl,0,_,_,rfl,_,rfl,?_⟩
 try refine stI ?_
 try simp (dsimp:=false)(disch:=omega) only [go_sem,ia_someH,hP,hops,mapPut,List.nil_append,List.cons_append]
 refine ⟨_,_,rfl,0,_,_,rfl,_,rfl,?_⟩
 try refine stI ?_
 try simp (dsimp:=false)(disch:=omega) only [go_sem,ia_someH,hP,hops,mapPut,List.nil_append,List.cons_append]
 refine ⟨_,_,rfl,0,_,_,rfl,_,rfl,?_⟩
 try refine stI ?_
 try simp (dsimp:=false)(disch:=omega) only [go_sem,ia_someH,hP,hops,mapPut,List.nil_append,List.cons_append]
 refine ⟨_,_,rfl,0,_,_,rfl,_,rfl,?_⟩
 try refine stI ?_
 try simp (dsimp:=false)(disch:=omega) only [go_sem,ia_someH,hP,hops,mapPut,List.nil_append,List.cons_append]
 refine ⟨_,_,rfl,0,_,_,rfl,_,rfl,?_⟩
 try refine stI ?_
 try simp (dsimp:=false)(disch:=omega) only [go_sem,ia_someH,hP,hops,mapPut,List.nil_append,List.cons_append]
 refine ⟨_,_,rfl,0,_,_,rfl,_,rfl,?_⟩
 try refine stI ?_
 try simp (dsimp:=false)(disch:=omega) only [go_sem,ia_someH,hP,hops,mapPut,List.nil_append,List.cons_append]
 refine ⟨_,_,rfl,0,_,_,rfl,_,rfl,?_⟩
 try refine stI ?_
 try simp (dsimp:=false)(disch:=omega) only [go_sem,ia_someH,hP,hops,mapPut,List.nil_append,List.cons_append]
 refine ⟨_,_,rfl,0,_,_,rfl,_,rfl,?_⟩
 try refine stI ?_
 try simp (dsimp:=false)(disch:=omega) only [go_sem,ia_someH,hP,hops,mapPut,List.nil_append,List.cons_append]
 refine ⟨_,_,rfl,0,_,_,rfl,_,rfl,?_⟩
 try refine stI ?_
 try simp (dsimp:=false)(disch:=omega) only [go_sem,ia_someH,hP,hops,mapPut,List.nil_append,List.cons_append]
 refine ⟨_,_,rfl,0,_,_,rfl,_,rfl,?_⟩
 try refine stI ?_
 try simp (dsimp:=false)(disch:=omega) only [go_sem,ia_someH,hP,hops,mapPut,List.nil_append,List.cons_append]
 refine ⟨_,_,rfl,0,_,_,rfl,_,rfl,?_⟩
 try refine stI ?_
 try simp (dsimp:=false)(disch:=omega) only [go_sem,ia_someH,hP,hops,mapPut,List.nil_append,List.cons_append]
 refine ⟨_,_,rfl,0,_,_,rfl,_,rfl,?_⟩
 try refine stI ?_
 try simp (dsimp:=false)(disch:=omega) only [go_sem,ia_someH,hP,hops,mapPut,List.nil_append,List.cons_append]
 refine ⟨_,_,rfl,0,_,_,rfl,_,rfl,?_⟩
 try refine stI ?_
 try simp (dsimp:=false)(disch:=omega) only [go_sem,ia_someH,hP,hops,mapPut,List.nil_append,List.cons_append]
 refine ⟨_,_,rfl,0,_,_,rfl,_,rfl,?_⟩
 try refine stI ?_
 try simp (dsimp:=false)(disch:=omega) only [go_sem,ia_someH,hP,hops,mapPut,List.nil_append,List.cons_append]
 refine ⟨_,_,rfl,0,_,_,rfl,_,rfl,?_⟩
 try refine stI ?_
 try simp (dsimp:=false)(disch:=omega) only [go_sem,ia_someH,hP,hops,mapPut,List.nil_append,List.cons_append]
 refine ⟨_,_,rfl,0,_,_,rfl,_,rfl,?_⟩
 try refine stI ?_
 try simp (dsimp:=false)(disch:=omega) only [go_sem,ia_someH,hP,hops,mapPut,List.nil_append,List.cons_append]
 refine ⟨_,_,rfl,0,_,_,rfl,_,rfl,?_⟩
 try refine stI ?_
 try simp (dsimp:=false)(disch:=omega) only [go_sem,ia_someH,hP,hops,mapPut,List.nil_append,List.cons_append]
 refine ⟨_,_,rfl,0,_,_,rfl,_,rfl,?_⟩
 try refine stI ?_
 try simp (dsimp:=false)(disch:=omega) only [go_sem,ia_someH,hP,hops,mapPut,List.nil_append,List.cons_append]
 refine ⟨_,_,rfl,0,_,_,rfl,_,rfl,?_⟩
 try refine stI ?_
 try simp (dsimp:=false)(disch:=omega) only [go_sem,ia_someH,hP,hops,mapPut,List.nil_append,List.cons_append]
 refine ⟨_,_,rfl,0,_,_,rfl,_,rfl,?_⟩
 try refine stI ?_
 try simp (dsimp:=false)(disch:=omega) only [go_sem,ia_someH,hP,hops,mapPut,List.nil_append,List.cons_append]
 refine ⟨_,_,rfl,0,_,_,rfl,_,rfl,?_⟩
 try refine stI ?_
 try simp (dsimp:=false)(disch:=omega) only [go_sem,ia_someH,hP,hops,mapPut,List.nil_append,List.cons_append]
 refine ⟨_,_,rfl,0,_,_,rfl,_,rfl,?_⟩
 try refine stI ?_
 try simp (dsimp:=false)(disch:=omega) only [go_sem,ia_someH,hP,hops,mapPut,List.nil_append,List.cons_append]
 refine ⟨_,_,rfl,0,_,_,rfl,_,rfl,?_⟩
 try refine stI ?_
 try simp (dsimp:=false)(disch:=omega) only [go_sem,ia_someH,hP,hops,mapPut,List.nil_append,List.cons_append]
 refine hK2 _ _ ?_
 try clear hK2 K2
 refine SX.ret ?_
 simp only [andThen_normal,andThen_ret,andThen_exit,inBlk_normal,inBlk_ret,inBlk_exit,Nat.reduceEqDiff,if_true,if_false,↓reduceIte,retQ_ret]
 try simp only [res0,res1,res2,res3,stK_e,go_sem,ia_someH,hP]
 exact ⟨_,_,Less.refl _,rfl,bm,rfl,rfl⟩


end Go.Proofs.YtgioegdjeodpiaaGreat
namespace Go.Proofs.YtgioegdjeodpiaaGreat
open Go.RowKit Go.SX
set_option maxHeartbeats 1000000
set_option maxRecDepth 100000

theorem lessThree (a b c p q : Slot) (L : Hp) : Less (c :: b :: a :: p :: q :: L) (a :: b :: c :: L) :=
 (Less.sublist (.cons_cons _ (.cons_cons _ (.cons_cons _ (.cons _ (.cons _ (List.Sublist.refl _))))))).trans (Less.perm ((List.reverse_perm [a,b,c]).append_right L))
def cloneG (g : GM) (L : Hp) (v : Value) (L' : Hp) : Prop := ∃ sv pv mv s1 s2 s3,v = .agg (g.cells sv pv mv).toArray ∧ L' = s1 :: s2 :: s3 :: L ∧ Rows g sv pv mv s1 s2 s3
def checkE (g : GM) : Int := if g.pg.length = 256 ∧ g.mm.length = 3232 ∧ g.st.length ≤ 12 then 0 else 180
theorem slShape {k : IntKind} {C : Addr → Value → Prop} {v : Value} {l : List Int} (h : SlI k C v l) : ∃ A c,v = .slice A l.length c ∧ l.length ≤ c := let ⟨A,c,h1,h2,_⟩ := h; ⟨A,c,h1,h2⟩
theorem clone_spec {Γ : Ctx} (hP : Γ.P = Tryz.prog) {L : Hp} {g : GM} {sv pv mv : Value} (hs : SlI .u16 (Cell Γ L) sv g.st) (hp : SlI .u8 (Cell Γ L) pv g.pg) (hm : SlI .u8 (Cell Γ L) mv g.mm) (hsl : g.st.length ≤ 1000000) (hpl : g.pg.length ≤ 1000000) (hml : g.mm.length ≤ 1000000) :
  SCall Γ 22 #[(.agg (g.cells sv pv mv).toArray)] L (cloneG g L) := by
 refine SCall.enter (n := 16) (resX Γ [.cell 2 27]) (hP ▸ Tryz.func22) rfl rfl (by simp) (resX_ok rfl) ?_
 refine SX.seq_k fun K1 hK1=>?_
 refine SX.region_d [some 1,some 2] rfl (fun ops hops=>?_)
 unfold Dsts at hops
 simp (dsimp:=false)(disch:=omega) only [go_sem,ia_someH,hP,hops]
 intro b0
 try refine stI ?_
 try simp (dsimp:=false)(disch:=omega) only [go_sem,ia_someH,hP,hops]
 intro b1
 try refine stI ?_
 try simp (dsimp:=false)(disch:=omega) only [go_sem,ia_someH,hP,hops]
 refine hK1 _ _ ?_
 try clear hK1 K1
 refine SX.seq_k fun K2 hK2=>?_
 refine SX.drawn_d [(0,.q),(1,.q),(3,.q),(4,.q),(6,.q),(7,.q),(2,.e),(9,.q),(5,.e),(8,.e),(10,.t),(11,.t),(12,.t),(13,.t),(14,.t)] (fun L=>L) (hP ▸ T.mixed) (by kernel_rfl) (by exact Less.refl _) [some 3,some 4,some 5,some 6,some 7,some 8,some 9,some 10,some 11,some 12,none,some 13,none,some 14,none] rfl (fun ops hops hopl=>?_)
 unfold Dsts at hops
 simp (dsimp:=false)(disch:=omega) only [go_sem,ia_someH,hP,hops,hopl]
 refine ⟨_,Cell.at 1 rfl (show (g.cells _ _ _)[18]? = _ from rfl),?_⟩
 try refine stI ?_
 try simp (dsimp:=false)(disch:=omega) only [go_sem,ia_someH,hP,hops,hopl]
 refine ⟨_,Cell.at 1 rfl (show (g.cells _ _ _)[21]? = _ from rfl),?_⟩
 try refine stI ?_
 try simp (dsimp:=false)(disch:=omega) only [go_sem,ia_someH,hP,hops,hopl]
 refine ⟨_,Cell.at 1 rfl (show (g.cells _ _ _)[22]? = _ from rfl),?_⟩
 try refine stI ?_
 try simp (dsimp:=false)(disch:=omega) only [go_sem,ia_someH,hP,hops,hopl]
 refine SCall.mono (cloneW_spec hP (SlI.cons _ (SlI.cons _ hs)) hsl) ?_
 rintro v_ L_ ⟨s1,rfl,hr1⟩
 obtain ⟨A1,c1,rfl,hc1⟩ := rowShape hr1
 try refine stI ?_
 try simp (dsimp:=false)(disch:=omega) only [go_sem,ia_someH,hP,hops,hopl]
 refine SCall.mono (cloneB_spec hP (SlI.cons _ (SlI.cons _ (SlI.cons _ hp))) hpl) ?_
 rintro v_ L_ ⟨s2,rfl,hr2⟩
 obtain ⟨A2,c2,rfl,hc2⟩ := rowShape hr2
 try refine stI ?_
 try simp (dsimp:=false)(disch:=omega) only [go_sem,ia_someH,hP,hops,hopl]
 refine SCall.mono (cloneB_spec hP (SlI.cons _ (SlI.cons _ (SlI.cons _ (SlI.cons _ hm)))) hml) ?_
 rintro v_ L_ ⟨s3,rfl,hr3⟩
 obtain ⟨A3,c3,rfl,hc3⟩ := rowShape hr3
 try refine stI ?_
 try simp (dsimp:=false)(disch:=omega) only [go_sem,ia_someH,hP,hops,hopl]
 refine ⟨4,_,_,_,rfl,(by simp [GM.cells]),.inr (by decide),?_⟩
 try refine stI ?_
 try simp (dsimp:=false)(disch:=omega) only [go_sem,ia_someH,hP,hops,hopl]
 refine ⟨4,_,_,_,rfl,(by simp [GM.cells]),.inr (by decide),?_⟩
 try refine stI ?_
 try simp (dsimp:=false)(disch:=omega) only [go_sem,ia_someH,hP,hops,hopl]
 refine ⟨4,_,_,_,rfl,(by simp [GM.cells]),.inr (by decide),?_⟩
 try refine stI ?_
 try simp (dsimp:=false)(disch:=omega) only [go_sem,ia_someH,hP,hops,hopl]
 refine hK2 _ _ ?_
 try clear hK2 K2
 refine SX.live [1,2] (fun T1 hT1=>?_)
 simp only [forall_mem_cons',forall_mem_nil',go_sem,ia_someH,hP] at hT1
 obtain ⟨h1_1,h1_2⟩ := hT1
 refine SX.seq_k fun K3 hK3=>?_
 refine SX.region_d [some 15,none] rfl (fun ops hops=>?_)
 unfold Dsts at hops
 simp (dsimp:=false)(disch:=omega) only [go_sem,ia_someH,hP,h1_1,h1_2,hops]
 iterate 23 refine ⟨_,Cell.at 4 rfl rfl,?_⟩
 try refine stI ?_
 try simp (dsimp:=false)(disch:=omega) only [go_sem,ia_someH,hP,h1_1,h1_2,hops]
 refine ⟨3,_,_,_,rfl,(by simp [GM.cells]),.inr (by decide),?_⟩
 try refine stI ?_
 try simp (dsimp:=false)(disch:=omega) only [go_sem,ia_someH,hP,h1_1,h1_2,hops]
 refine hK3 _ _ ?_
 try clear hK3 K3
 refine SX.ret ?_
 simp only [andThen_normal,andThen_ret,andThen_exit,inBlk_normal,inBlk_ret,inBlk_exit,Nat.reduceEqDiff,if_true,if_false,↓reduceIte,retQ_ret]
 try simp only [res0,res1,res2,res3,stK_e,resX,resK,oneOr,ld_ptr,loadVC,loadN,List.nil_append,List.cons_append,Nat.reduceAdd,Nat.add_zero,Nat.zero_add,Addr.add_lit,Addr.add_zero',add_addS,T.elA_27,T.lay_27,T.szA_27,T.zr_27,Tryz.underlying27,go_sem,ia_someH,hP,h1_1,h1_2]
 refine ⟨_,_,lessThree _ _ _ _ _ _,⟨_,Cell.at 3 rfl rfl,_,Cell.at 3 rfl rfl,_,Cell.at 3 rfl rfl,_,Cell.at 3 rfl rfl,_,Cell.at 3 rfl rfl,_,Cell.at 3 rfl rfl,_,Cell.at 3 rfl rfl,_,Cell.at 3 rfl rfl,_,Cell.at 3 rfl rfl,_,Cell.at 3 rfl rfl,_,Cell.at 3 rfl rfl,_,Cell.at 3 rfl rfl,_,Cell.at 3 rfl rfl,_,Cell.at 3 rfl rfl,_,Cell.at 3 rfl rfl,_,Cell.at 3 rfl rfl,_,Cell.at 3 rfl rfl,_,Cell.at 3 rfl rfl,_,Cell.at 3 rfl rfl,_,Cell.at 3 rfl rfl,_,Cell.at 3 rfl rfl,_,Cell.at 3 rfl rfl,_,Cell.at 3 rfl rfl,rfl⟩,?_⟩
 exact ⟨_,_,_,s1,s2,s3,rfl,rfl,⟨hr1,hr2,hr3⟩⟩
theorem Check_spec {Γ : Ctx} (hP : Γ.P = Tryz.prog) {L : Hp} {g : GM} {sv pv mv : Value} (hs : SlI .u16 (Cell Γ L) sv g.st) (hp : SlI .u8 (Cell Γ L) pv g.pg) (hm : SlI .u8 (Cell Γ L) mv g.mm) (hsl : g.st.length ≤ 2147483647) (hpl : g.pg.length ≤ 2147483647) (hml : g.mm.length ≤ 2147483647) :
  SCall Γ 21 #[(.agg (g.cells sv pv mv).toArray)] L (fun v L'=>v = .int .i64 (checkE g) ∧ L' = L) := by
 obtain ⟨As,cs,rfl,hcs⟩ := slShape hs
 obtain ⟨Ap,cp,rfl,hcp⟩ := slShape hp
 obtain ⟨Am,cm,rfl,hcm⟩ := slShape hm
 refine SCall.enter (n := 19) (res1 2) (hP ▸ Tryz.func21) rfl rfl (by simp) (res1_ok rfl) ?_
 refine SX.seq_k fun K1 hK1=>?_
 refine SX.region_d [some 1,some 2] rfl (fun ops hops=>?_)
 unfold Dsts at hops
 simp (dsimp:=false)(disch:=omega) only [go_sem,ia_someH,hP,hops]
 intro b0
 try refine stI ?_
 try simp (dsimp:=false)(disch:=omega) only [go_sem,ia_someH,hP,hops]
 refine hK1 _ _ ?_
 try clear hK1 K1
 refine SX.seq_k fun K2 hK2=>?_
 refine SX.seq_k fun K3 hK3=>?_
 refine SX.region_xd [some 3,some 4,some 5,some 6,some 7,some 8,some 9,some 10,some 11,some 12,some 13,some 14,some 15,some 16,some 17,some 18] rfl (fun ops hops=>?_)
 unfold Dsts at hops
 refine RX.live [1] (fun T1 hT1=>?_)
 simp only [forall_mem_cons',forall_mem_nil',go_sem,ia_someH,hP] at hT1
 have h1_1 := hT1; clear hT1
 refine RX.join 10 (fun (ss : Unit) T L'=>T 12 = .bool ((!decide ((g.pg.length : Int) = 256)) || !decide ((g.mm.length : Int) = 3232)) ∧ T 1 = T1 1 ∧ L' = some (b0,.cells (g.cells (.slice As g.st.length cs) (.slice Ap g.pg.length cp) (.slice Am g.mm.length cm)).toArray 27 (0,0)) :: L ∧ (True)) (fun K4 hK4=>?_) ?_
 ·simp only [h1_1] at hK4
  simp (dsimp:=false)(disch:=omega) only [go_sem,ia_someH,hP,h1_1,hops]
  repeat' (first | refine iteB (fun hg=>?_) (fun hg=>?_) | refine iteI (fun hg=>?_) (fun hg=>?_) | ((first | refine ⟨_,Cell.at 0 rfl (show (g.cells _ _ _)[21]? = _ from rfl),?_⟩ | refine ⟨_,Cell.at 0 rfl (show (g.cells _ _ _)[22]? = _ from rfl),?_⟩ | refine ⟨_,Cell.at 0 rfl (show (g.cells _ _ _)[18]? = _ from rfl),?_⟩ | refine And.intro (by omega) ?_ | refine ⟨_,Cell.at 0 rfl rfl,?_⟩ | fail); try refine stI ?_; try simp (dsimp:=false)(disch:=omega) only [go_sem,ia_someH,hP,h1_1,hops]) | fail)
  all_goals
   refine hK4 () _ (some (b0,.cells (g.cells (.slice As g.st.length cs) (.slice Ap g.pg.length cp) (.slice Am g.mm.length cm)).toArray 27 (0,0)) :: L) _ (by first | exact Less.refl _ | exact Less.drop _ _ | exact Less.drops (Less.drop _ _) | exact Less.drops (Less.drops (Less.drop _ _)) | exact Less.drops (Less.drops (Less.drops (Less.drop _ _))) | exact Less.drops (Less.drops (Less.drops (Less.drops (Less.drop _ _))))) ?_
   try dsimp only
   refine ⟨?_,?_,?_,?_⟩
   ·simp (dsimp:=false)(disch:=omega) only [go_sem,ia_someH,hP,h1_1]
    first | done | (refine congrArg Value.bool ?_; simp_all; done) | (refine congrArg Value.bool ?_; simp_all; omega)
   ·simp (dsimp:=false)(disch:=omega) only [go_sem,ia_someH,hP,h1_1]
   ·rfl
   trivial
 intro ss T2 L2 hI
 simp only [h1_1] at hI 
 obtain ⟨h2_12,h2_1,hL2,hinv⟩ := hI
 replace hL2 := hL2.symm
 subst hL2
 clear h1_1 T1
 refine RX.live [1,12] (fun T3 hT3=>?_)
 simp only [forall_mem_cons',forall_mem_nil',go_sem,ia_someH,hP,h2_12,h2_1] at hT3
 obtain ⟨h3_1,h3_12⟩ := hT3
 clear h2_12 h2_1 T2
 refine RX.join 6 (fun (ss : Unit) T L'=>T 18 = .bool ((!decide ((g.pg.length : Int) = 256)) || (!decide ((g.mm.length : Int) = 3232)) || decide (12 < (g.st.length : Int))) ∧ L' = some (b0,.cells (g.cells (.slice As g.st.length cs) (.slice Ap g.pg.length cp) (.slice Am g.mm.length cm)).toArray 27 (0,0)) :: L ∧ (True)) (fun K5 hK5=>?_) ?_
 ·simp (dsimp:=false)(disch:=omega) only [go_sem,ia_someH,hP,h3_1,h3_12,hops]
  repeat' (first | refine iteB (fun hg=>?_) (fun hg=>?_) | refine iteI (fun hg=>?_) (fun hg=>?_) | ((first | refine ⟨_,Cell.at 0 rfl (show (g.cells _ _ _)[21]? = _ from rfl),?_⟩ | refine ⟨_,Cell.at 0 rfl (show (g.cells _ _ _)[22]? = _ from rfl),?_⟩ | refine ⟨_,Cell.at 0 rfl (show (g.cells _ _ _)[18]? = _ from rfl),?_⟩ | refine And.intro (by omega) ?_ | refine ⟨_,Cell.at 0 rfl rfl,?_⟩ | fail); try refine stI ?_; try simp (dsimp:=false)(disch:=omega) only [go_sem,ia_someH,hP,h3_1,h3_12,hops]) | fail)
  all_goals
   refine hK5 () _ (some (b0,.cells (g.cells (.slice As g.st.length cs) (.slice Ap g.pg.length cp) (.slice Am g.mm.length cm)).toArray 27 (0,0)) :: L) _ (by first | exact Less.refl _ | exact Less.drop _ _ | exact Less.drops (Less.drop _ _) | exact Less.drops (Less.drops (Less.drop _ _)) | exact Less.drops (Less.drops (Less.drops (Less.drop _ _))) | exact Less.drops (Less.drops (Less.drops (Less.drops (Less.drop _ _))))) ?_
   try dsimp only
   refine ⟨?_,?_,?_⟩
   ·simp (dsimp:=false)(disch:=omega) only [go_sem,ia_someH,hP,h3_1,h3_12]
    first | done | (refine congrArg Value.bool ?_; simp_all; done) | (refine congrArg Value.bool ?_; simp_all; omega)
   ·rfl
   trivial
 intro ss T4 L4 hI
 obtain ⟨h4_18,hL4,hinv⟩ := hI
 replace hL4 := hL4.symm
 subst hL4
 clear h3_1 h3_12 T3
 refine RX.done ?_
 simp (dsimp:=false)(disch:=omega) only [go_sem,ia_someH,hP,h4_18,hops]
 refine hK3 _ _ ?_
 try clear hK3 K3
 refine SX.cond_k fun X6 Y6 hX6 hY6=>?_
 simp (dsimp:=false)(disch:=omega) only [go_sem,ia_someH,hP,h4_18,condVC]
 refine ⟨fun hc18=>hX6 ?_,fun hc18=>hY6 ?_⟩
 ·clear hX6 hY6 X6 Y6
  refine SX.seq_k fun K7 hK7=>?_
  refine SX.region_d [some 2] rfl (fun ops hops=>?_)
  unfold Dsts at hops
  simp (dsimp:=false)(disch:=omega) only [go_sem,ia_someH,hP,h4_18,hops]
  refine hK7 _ _ ?_
  try clear hK7 K7
  refine SX.ret ?_
  simp only [andThen_normal,andThen_ret,andThen_exit,inBlk_normal,inBlk_ret,inBlk_exit,Nat.reduceEqDiff,if_true,if_false,↓reduceIte,retQ_ret]
  try simp only [res0,res1,res2,res3,stK_e,go_sem,ia_someH,hP,h4_18]
  refine ⟨_,_,Less.drop _ _,rfl,?_⟩
  unfold checkE
  rw [if_neg (fun h=>by obtain ⟨h1,h2,h3⟩ := h; simp [h1,h2] at hc18; omega)]
  exact ⟨rfl,rfl⟩
 clear hX6 hY6 X6 Y6
 refine SX.skip ?_
 try simp only [andThen_normal,andThen_ret,andThen_exit,inBlk_normal,inBlk_ret,inBlk_exit,Nat.reduceEqDiff,if_true,if_false,↓reduceIte]
 refine hK2 _ _ ?_
 try clear hK2 K2
 refine SX.seq_k fun K8 hK8=>?_
 refine SX.region_d [some 2] rfl (fun ops hops=>?_)
 unfold Dsts at hops
 simp (dsimp:=false)(disch:=omega) only [go_sem,ia_someH,hP,h4_18,hops]
 refine hK8 _ _ ?_
 try clear hK8 K8
 refine SX.ret ?_
 simp only [andThen_normal,andThen_ret,andThen_exit,inBlk_normal,inBlk_ret,inBlk_exit,Nat.reduceEqDiff,if_true,if_false,↓reduceIte,retQ_ret]
 try simp only [res0,res1,res2,res3,stK_e,go_sem,ia_someH,hP,h4_18]
 refine ⟨_,_,Less.drop _ _,rfl,?_⟩
 unfold checkE
 rw [if_pos (by simp at hc18; omega)]
 exact ⟨rfl,rfl⟩


end Go.Proofs.YtgioegdjeodpiaaGreat
namespace Go.Proofs.YtgioegdjeodpiaaGreat
open Go.RowKit Go.SX
open Go.SX renaming ia_someH → Φa

def wordG (g : GM) : Nat := (g.mm.getD (g.PC - 512).toNat 0 * 256 + g.mm.getD (g.PC - 512 + 1).toNat 0).toNat
def nextG (g : GM) : Ord × Int :=
 if checkE g ≠ 0 then (zeroO,0)
 else if ¬ (512 ≤ g.PC ∧ g.PC + 1 < 3744) then (zeroO,7)
 else match decode (wordG g) with
  | none=>(zeroO,4)
  | some o=>if o.op = 1 then (o,3) else (o,1)
def nextV (r : Ord × Int) : Value := .tuple #[.agg r.1.cells.toArray,.int .u8 r.2]
theorem word_val {a b : Int} (ha : 0 ≤ a ∧ a ≤ 255) (hb : 0 ≤ b ∧ b ≤ 255) : bits .or .u16 (a * 256) b = (((a * 256 + b).toNat : Nat) : Int) := by
 rw [bits_join .u16 16 (by decide) (fun n h1 h2=>wu16 (by omega)) 8 (a * 256) b (by omega) (by omega) (by omega) (by omega) (by omega) (by omega)]
 omega
theorem word_sh {a : Int} (ha : 0 ≤ a ∧ a ≤ 255) : IntKind.u16.wrap (a * 2 ^ (min 8 16)) = a * 256 := by
 show IntKind.u16.wrap (a * 256) = _
 exact wu16 (by omega)
set_option maxHeartbeats 1000000 in
set_option maxRecDepth 100000 in
theorem Next_spec {Γ : Ctx} (hP : Γ.P = Tryz.prog) {L : Hp} {g : GM} {sv pv mv : Value} (hg : OkG g) (hs : SlI .u16 (Cell Γ L) sv g.st) (hp : SlI .u8 (Cell Γ L) pv g.pg) (hm : SlI .u8 (Cell Γ L) mv g.mm) (hsl : g.st.length ≤ 2147483647) (hpl : g.pg.length ≤ 2147483647) (hml : g.mm.length ≤ 2147483647) :
  SCall Γ 25 #[(.agg (g.cells sv pv mv).toArray)] L (fun v L'=>v = nextV (nextG g) ∧ L' = L) := by
 obtain ⟨As,cs,rfl,hcs⟩ := slShape hs
 obtain ⟨Ap,cp,rfl,hcp⟩ := slShape hp
 obtain ⟨Am,cm,rfl,hcm⟩ := slShape hm
 have hPCb := hg.PC
 refine SCall.enter (n := 55) (resX Γ [.cell 2 60,.tmp 3]) (hP ▸ Tryz.func25) rfl rfl (by simp) (resX_ok rfl) ?_
 refine SX.seq_k fun K1 hK1=>?_
 refine SX.region_d [some 1,some 2,some 3] rfl (fun ops hops=>?_)
 unfold Dsts at hops
 simp (dsimp:=false)(disch:=omega) only [go_sem,Φa,hP,hops]
 intro b0
 try refine stI ?_
 try simp (dsimp:=false)(disch:=omega) only [go_sem,Φa,hP,hops]
 intro b1
 try refine stI ?_
 try simp (dsimp:=false)(disch:=omega) only [go_sem,Φa,hP,hops]
 refine hK1 _ _ ?_
 try clear hK1 K1
 refine SX.seq_k fun K2 hK2=>?_
 refine SX.seq_k fun K3 hK3=>?_
 refine SX.region_d [some 7,some 8,some 9] rfl (fun ops hops=>?_)
 unfold Dsts at hops
 simp (dsimp:=false)(disch:=omega) only [go_sem,Φa,hP,hops]
 iterate 23 refine ⟨_,Cell.at 1 rfl rfl,?_⟩
 try refine stI ?_
 try simp (dsimp:=false)(disch:=omega) only [go_sem,Φa,hP,hops]
 first | (refine SCall.mono (Check_spec (g := g) (sv := .slice As g.st.length cs) (pv := .slice Ap g.pg.length cp) (mv := .slice Am g.mm.length cm) hP (SlI.cons _ (SlI.cons _ hs)) (SlI.cons _ (SlI.cons _ hp)) (SlI.cons _ (SlI.cons _ hm)) hsl hpl hml) ?_; rintro v_ L_ ⟨hv_,hL_⟩; rw [hv_,hL_]; clear hv_ hL_ v_ L_) | refine ⟨_,Check_spec (g := g) (sv := .slice As g.st.length cs) (pv := .slice Ap g.pg.length cp) (mv := .slice Am g.mm.length cm) hP (SlI.cons _ (SlI.cons _ hs)) (SlI.cons _ (SlI.cons _ hp)) (SlI.cons _ (SlI.cons _ hm)) hsl hpl hml,?_⟩ | refine ⟨_,fun L0 hl0=>Check_spec (g := g) (sv := .slice As g.st.length cs) (pv := .slice Ap g.pg.length cp) (mv := .slice Am g.mm.length cm) hP (SlI.cons _ (SlI.cons _ hs)) (SlI.cons _ (SlI.cons _ hp)) (SlI.cons _ (SlI.cons _ hm)) hsl hpl hml,?_⟩
 try refine stI ?_
 try simp (dsimp:=false)(disch:=omega) only [go_sem,Φa,hP,hops]
 refine hK3 _ _ ?_
 try clear hK3 K3
 refine SX.cond_k fun X4 Y4 hX4 hY4=>?_
 simp (dsimp:=false)(disch:=omega) only [go_sem,Φa,hP,condVC]
 refine ⟨fun hc9=>hX4 ?_,fun hc9=>hY4 ?_⟩
 ·clear hX4 hY4 X4 Y4
  refine SX.seq_k fun K5 hK5=>?_
  refine SX.region_d [some 10,none,some 3] rfl (fun ops hops=>?_)
  unfold Dsts at hops
  simp (dsimp:=false)(disch:=omega) only [go_sem,Φa,hP,hops]
  refine ⟨0,_,_,_,rfl,by decide,.inr (by decide),?_⟩
  try refine stI ?_
  try simp (dsimp:=false)(disch:=omega) only [go_sem,Φa,hP,hops]
  refine hK5 _ _ ?_
  try clear hK5 K5
  refine SX.ret ?_
  simp only [andThen_normal,andThen_ret,andThen_exit,inBlk_normal,inBlk_ret,inBlk_exit,Nat.reduceEqDiff,if_true,if_false,↓reduceIte,retQ_ret]
  try simp only [res0,res1,res2,res3,stK_e,resX,resK,oneOr,ld_ptr,loadVC,loadN,List.nil_append,List.cons_append,Nat.reduceAdd,Nat.add_zero,Nat.zero_add,Addr.add_lit,Addr.add_zero',add_addS,T.elA_60,T.lay_60,T.szA_60,T.zr_60,Tryz.underlying60,go_sem,Φa,hP]
  refine ⟨_,L,Less.drops (Less.drop _ _),⟨_,Cell.at 0 rfl rfl,_,Cell.at 0 rfl rfl,_,Cell.at 0 rfl rfl,_,Cell.at 0 rfl rfl,_,Cell.at 0 rfl rfl,_,Cell.at 0 rfl rfl,rfl⟩,?_⟩
  unfold nextG nextV
  rw [if_pos (by simpa using hc9)]
  exact ⟨rfl,rfl⟩
 clear hX4 hY4 X4 Y4
 refine SX.skip ?_
 try simp only [andThen_normal,andThen_ret,andThen_exit,inBlk_normal,inBlk_ret,inBlk_exit,Nat.reduceEqDiff,if_true,if_false,↓reduceIte]
 refine hK2 _ _ ?_
 try clear hK2 K2
 refine SX.seq_k fun K6 hK6=>?_
 refine SX.region_d [some 11,some 12,some 13,some 4] rfl (fun ops hops=>?_)
 unfold Dsts at hops
 simp (dsimp:=false)(disch:=omega) only [go_sem,Φa,hP,hops]
 refine ⟨_,Cell.at 1 rfl (show (g.cells _ _ _)[17]? = _ from rfl),?_⟩
 try refine stI ?_
 try simp (dsimp:=false)(disch:=omega) only [go_sem,Φa,hP,hops]
 refine hK6 _ _ ?_
 try clear hK6 K6
 refine SX.live [1,2,4] (fun T1 hT1=>?_)
 simp only [forall_mem_cons',forall_mem_nil',go_sem,Φa,hP] at hT1
 obtain ⟨h1_1,h1_2,h1_4⟩ := hT1
 refine SX.seq_k fun K7 hK7=>?_
 refine SX.seq_k fun K8 hK8=>?_
 refine SX.region_xd [some 14,some 15,some 16,some 17,some 18,some 19,some 20,some 21,some 22] rfl (fun ops hops=>?_)
 unfold Dsts at hops
 refine RX.live [1,2,4] (fun T2 hT2=>?_)
 simp only [forall_mem_cons',forall_mem_nil',go_sem,Φa,hP,h1_1,h1_2,h1_4] at hT2
 obtain ⟨h2_1,h2_2,h2_4⟩ := hT2
 clear h1_1 h1_2 h1_4 T1
 refine RX.join 9 (fun (ss : Unit) T L'=>T 22 = .bool ((!decide (512 ≤ g.PC ∧ g.PC < 3744)) || !decide (512 ≤ g.PC + 1 ∧ g.PC + 1 < 3744)) ∧ T 1 = T2 1 ∧ T 2 = T2 2 ∧ T 4 = T2 4 ∧ L' = some (b1,.cells #[.int .u8 0,.int .u8 0,.int .u8 0,.int .u8 0,.int .u8 0,.int .u16 0] 60 (0,0)) :: some (b0,.cells (g.cells (.slice As g.st.length cs) (.slice Ap g.pg.length cp) (.slice Am g.mm.length cm)).toArray 27 (0,0)) :: L ∧ (True)) (fun K9 hK9=>?_) ?_
 ·simp only [h2_1,h2_2,h2_4] at hK9
  simp (dsimp:=false)(disch:=omega) only [go_sem,Φa,hP,h2_1,h2_2,h2_4,hops]
  repeat' (first | refine iteB (fun hg=>?_) (fun hg=>?_) | refine iteI (fun hg=>?_) (fun hg=>?_) | ((first | first | (refine SCall.mono (inside_spec hP) ?_; rintro v_ L_ ⟨hv_,hL_⟩; rw [hv_,hL_]; clear hv_ hL_ v_ L_) | refine ⟨_,inside_spec hP,?_⟩ | refine ⟨_,fun L0 hl0=>inside_spec hP,?_⟩ | refine And.intro (by omega) ?_ | refine ⟨_,Cell.at 0 rfl rfl,?_⟩ | refine ⟨_,Cell.at 1 rfl rfl,?_⟩ | fail); try refine stI ?_; try simp (dsimp:=false)(disch:=omega) only [go_sem,Φa,hP,h2_1,h2_2,h2_4,hops]) | fail)
  all_goals
   refine hK9 () _ (some (b1,.cells #[.int .u8 0,.int .u8 0,.int .u8 0,.int .u8 0,.int .u8 0,.int .u16 0] 60 (0,0)) :: some (b0,.cells (g.cells (.slice As g.st.length cs) (.slice Ap g.pg.length cp) (.slice Am g.mm.length cm)).toArray 27 (0,0)) :: L) _ (by first | exact Less.refl _ | exact Less.drop _ _ | exact Less.drops (Less.drop _ _) | exact Less.drops (Less.drops (Less.drop _ _)) | exact Less.drops (Less.drops (Less.drops (Less.drop _ _))) | exact Less.drops (Less.drops (Less.drops (Less.drops (Less.drop _ _))))) ?_
   try dsimp only
   refine ⟨?_,?_,?_,?_,?_,?_⟩
   ·simp (dsimp:=false)(disch:=omega) only [go_sem,Φa,hP,h2_1,h2_2,h2_4]
    first | done | (refine congrArg Value.bool ?_; simp_all; done) | (refine congrArg Value.bool ?_; simp_all; omega)
   ·simp (dsimp:=false)(disch:=omega) only [go_sem,Φa,hP,h2_1,h2_2,h2_4]
   ·simp (dsimp:=false)(disch:=omega) only [go_sem,Φa,hP,h2_1,h2_2,h2_4]
   ·simp (dsimp:=false)(disch:=omega) only [go_sem,Φa,hP,h2_1,h2_2,h2_4]
   ·rfl
   trivial
 intro ss T3 L3 hI
 simp only [h2_1,h2_2,h2_4] at hI 
 obtain ⟨h3_22,h3_1,h3_2,h3_4,hL3,hinv⟩ := hI
 replace hL3 := hL3.symm
 subst hL3
 clear h2_1 h2_2 h2_4 T2
 refine RX.done ?_
 simp (dsimp:=false)(disch:=omega) only [go_sem,Φa,hP,h3_22,h3_1,h3_2,h3_4,hops]
 refine hK8 _ _ ?_
 try clear hK8 K8
 refine SX.cond_k fun X10 Y10 hX10 hY10=>?_
 simp (dsimp:=false)(disch:=omega) only [go_sem,Φa,hP,h3_22,h3_1,h3_2,h3_4,condVC]
 refine ⟨fun hc22=>hX10 ?_,fun hc22=>hY10 ?_⟩
 ·clear hX10 hY10 X10 Y10
  refine SX.seq_k fun K11 hK11=>?_
  refine SX.region_d [some 23,none,some 3] rfl (fun ops hops=>?_)
  unfold Dsts at hops
  simp (dsimp:=false)(disch:=omega) only [go_sem,Φa,hP,h3_22,h3_1,h3_2,h3_4,hops]
  refine ⟨0,_,_,_,rfl,by decide,.inr (by decide),?_⟩
  try refine stI ?_
  try simp (dsimp:=false)(disch:=omega) only [go_sem,Φa,hP,h3_22,h3_1,h3_2,h3_4,hops]
  refine hK11 _ _ ?_
  try clear hK11 K11
  refine SX.ret ?_
  simp only [andThen_normal,andThen_ret,andThen_exit,inBlk_normal,inBlk_ret,inBlk_exit,Nat.reduceEqDiff,if_true,if_false,↓reduceIte,retQ_ret]
  try simp only [res0,res1,res2,res3,stK_e,resX,resK,oneOr,ld_ptr,loadVC,loadN,List.nil_append,List.cons_append,Nat.reduceAdd,Nat.add_zero,Nat.zero_add,Addr.add_lit,Addr.add_zero',add_addS,T.elA_60,T.lay_60,T.szA_60,T.zr_60,Tryz.underlying60,go_sem,Φa,hP,h3_22,h3_1,h3_2,h3_4]
  refine ⟨_,L,Less.drops (Less.drop _ _),⟨_,Cell.at 0 rfl rfl,_,Cell.at 0 rfl rfl,_,Cell.at 0 rfl rfl,_,Cell.at 0 rfl rfl,_,Cell.at 0 rfl rfl,_,Cell.at 0 rfl rfl,rfl⟩,?_⟩
  unfold nextG nextV
  rw [if_neg (by simpa using hc9),if_pos (by simp at hc22; omega)]
  exact ⟨rfl,rfl⟩
 clear hX10 hY10 X10 Y10
 refine SX.skip ?_
 try simp only [andThen_normal,andThen_ret,andThen_exit,inBlk_normal,inBlk_ret,inBlk_exit,Nat.reduceEqDiff,if_true,if_false,↓reduceIte]
 refine hK7 _ _ ?_
 try clear hK7 K7
 refine SX.seq_k fun K12 hK12=>?_
 refine SX.region_d [some 24,some 25,some 4] rfl (fun ops hops=>?_)
 unfold Dsts at hops
 simp (dsimp:=false)(disch:=omega) only [go_sem,Φa,hP,h3_22,h3_1,h3_2,h3_4,hops]
 repeat' ((first | refine And.intro (by omega) ?_ | fail); try refine stI ?_; try simp (dsimp:=false)(disch:=omega) only [go_sem,Φa,hP,h3_22,h3_1,h3_2,h3_4,hops])
 refine hK12 _ _ ?_
 try clear hK12 K12
 refine SX.seq_k fun K13 hK13=>?_
 have hck : checkE g = 0 := by simpa using hc9
 have hml3 : g.mm.length = 3232 := by
  unfold checkE at hck
  split at hck
  ·omega
  omega
 have hPCc : 512 ≤ g.PC ∧ g.PC + 1 < 3744 := by simp at hc22; omega
 obtain ⟨A0,c0,he,hc0,hA0⟩ := id hm
 cases he
 obtain ⟨a1,e1,hm1⟩ := hA0 (g.PC - 512).toNat _ (getD_some (by omega))
 obtain ⟨a2,e2,hm2⟩ := hA0 (g.PC - 512 + 1).toNat _ (getD_some (by omega))
 cases e1
 cases e2
 rw [Nat.mul_one] at hm1 hm2
 change Cell Γ _ _ (.int .u8 _) at hm1
 change Cell Γ _ _ (.int .u8 _) at hm2
 have hb1 := byte_at hg.mm (g.PC - 512).toNat
 have hb2 := byte_at hg.mm (g.PC - 512 + 1).toNat
 have hsh := word_sh hb1
 have hwv := word_val hb1 hb2
 have hwl : wordG g < 65536 := by unfold wordG; omega
 have hi1 : 0 ≤ g.PC - 512 ∧ g.PC - 512 < (g.mm.length : Int) := by omega
 have hi2 : 0 ≤ g.PC - 512 + 1 ∧ g.PC - 512 + 1 < (g.mm.length : Int) := by omega
 refine SX.drawn_d [(0,.q),(1,.q),(2,.q),(3,.q),(4,.q),(5,.q),(6,.q),(7,.q),(8,.q),(9,.q),(10,.q),(11,.q),(12,.q),(13,.q),(14,.q),(15,.c),(16,.q),(17,.q),(18,.q),(19,.e),(20,.e),(21,.q)] (fun _=>some (b1,.cells #[.int .u8 0,.int .u8 0,.int .u8 0,.int .u8 0,.int .u8 0,.int .u16 0] 60 (0,0)) :: some (b0,.cells (g.cells (.slice As g.st.length cs) (.slice Ap g.pg.length cp) (.slice (some a1) g.mm.length cm)).toArray 27 (0,0)) :: L) (hP ▸ T.mixed) (by kernel_rfl) (by exact Less.refl _) [some 27,some 28,some 29,some 30,some 31,some 32,some 33,some 34,some 35,some 36,some 37,some 38,some 39,some 40,some 41,some 42,some 26,some 43,some 44,some 5,none,some 6] rfl (fun ops hops hopl=>?_)
 unfold Dsts at hops
 simp (dsimp:=false)(disch:=omega) only [go_sem,Φa,hP,h3_22,h3_1,h3_2,h3_4,hops,hopl,hsh,hwv]
 refine ⟨_,Cell.at 1 rfl (show (g.cells _ _ _)[22]? = _ from rfl),?_⟩
 try refine stI ?_
 try simp (dsimp:=false)(disch:=omega) only [go_sem,Φa,hP,h3_22,h3_1,h3_2,h3_4,hops,hopl,hsh,hwv]
 refine ⟨_,Cell.cons _ (Cell.cons _ hm1),?_⟩
 try refine stI ?_
 try simp (dsimp:=false)(disch:=omega) only [go_sem,Φa,hP,h3_22,h3_1,h3_2,h3_4,hops,hopl,hsh,hwv]
 refine ⟨_,Cell.at 1 rfl (show (g.cells _ _ _)[22]? = _ from rfl),?_⟩
 try refine stI ?_
 try simp (dsimp:=false)(disch:=omega) only [go_sem,Φa,hP,h3_22,h3_1,h3_2,h3_4,hops,hopl,hsh,hwv]
 refine ⟨_,Cell.cons _ (Cell.cons _ hm2),?_⟩
 try refine stI ?_
 try simp (dsimp:=false)(disch:=omega) only [go_sem,Φa,hP,h3_22,h3_1,h3_2,h3_4,hops,hopl,hsh,hwv]
 rcases hdec : decode (wordG g) with _ | oo
 ·skip
  try refine stI ?_
  refine ⟨.tuple #[.agg zeroO.cells.toArray,.bool false],fun L0 hl0=>SCall.mono (Decode_spec (w := wordG g) hP hwl) (fun v L' h=>by
    unfold decodeR at h
    rw [hdec] at h
    exact stI h),?_⟩
  unfold zeroO
  unfold Ord.cells
  try refine stI ?_
  try simp (dsimp:=false)(disch:=omega) only [go_sem,Φa,hP,h3_22,h3_1,h3_2,h3_4,hops,hopl,hsh,hwv]
  intro b5
  try refine stI ?_
  try simp (dsimp:=false)(disch:=omega) only [go_sem,Φa,hP,h3_22,h3_1,h3_2,h3_4,hops,hopl,hsh,hwv]
  try refine And.intro (Less.drop _ _) ?_
  try refine stI ?_
  try simp (dsimp:=false)(disch:=omega) only [go_sem,Φa,hP,h3_22,h3_1,h3_2,h3_4,hops,hopl,hsh,hwv]
  refine ⟨0,_,_,_,rfl,by decide,.inr (by decide),?_⟩
  try refine stI ?_
  try simp (dsimp:=false)(disch:=omega) only [go_sem,Φa,hP,h3_22,h3_1,h3_2,h3_4,hops,hopl,hsh,hwv]
  try refine And.intro (Less.drop _ _) ?_
  try refine stI ?_
  try simp (dsimp:=false)(disch:=omega) only [go_sem,Φa,hP,h3_22,h3_1,h3_2,h3_4,hops,hopl,hsh,hwv]
  refine hK13 _ _ ?_
  try clear hK13 K13
  refine SX.live [2,5,6] (fun T4 hT4=>?_)
  simp only [forall_mem_cons',forall_mem_nil',go_sem,Φa,hP,h3_22,h3_1,h3_2,h3_4] at hT4
  obtain ⟨h4_2,h4_5,h4_6⟩ := hT4
  clear h3_22 h3_1 h3_2 h3_4 T3
  refine SX.seq_k fun K14 hK14=>?_
  refine SX.block ?_
  refine SX.seq_k fun K15 hK15=>?_
  refine SX.region_d [some 46,some 47,some 45] rfl (fun ops hops=>?_)
  unfold Dsts at hops
  simp (dsimp:=false)(disch:=omega) only [go_sem,Φa,hP,h4_2,h4_5,h4_6,hops]
  refine hK15 _ _ ?_
  try clear hK15 K15
  refine SX.cond_k fun X16 Y16 hX16 hY16=>?_
  simp (dsimp:=false)(disch:=omega) only [go_sem,Φa,hP,h4_2,h4_5,h4_6,condVC]
  refine hX16 ?_
  clear hX16 hY16 X16 Y16
  refine SX.seq_k fun K17 hK17=>?_
  refine SX.region_d [some 48,none,some 3] rfl (fun ops hops=>?_)
  unfold Dsts at hops
  simp (dsimp:=false)(disch:=omega) only [go_sem,Φa,hP,h4_2,h4_5,h4_6,hops]
  refine ⟨1,_,_,_,rfl,by decide,.inr (by decide),?_⟩
  try refine stI ?_
  try simp (dsimp:=false)(disch:=omega) only [go_sem,Φa,hP,h4_2,h4_5,h4_6,hops]
  refine hK17 _ _ ?_
  try clear hK17 K17
  refine SX.ret ?_
  simp only [andThen_normal,andThen_ret,andThen_exit,inBlk_normal,inBlk_ret,inBlk_exit,Nat.reduceEqDiff,if_true,if_false,↓reduceIte,retQ_ret]
  try simp only [res0,res1,res2,res3,stK_e,resX,resK,oneOr,ld_ptr,loadVC,loadN,List.nil_append,List.cons_append,Nat.reduceAdd,Nat.add_zero,Nat.zero_add,Addr.add_lit,Addr.add_zero',add_addS,T.elA_60,T.lay_60,T.szA_60,T.zr_60,Tryz.underlying60,go_sem,Φa,hP,h4_2,h4_5,h4_6]
  refine ⟨_,L,Less.drops (Less.drops (Less.drop _ _)),⟨_,Cell.at 1 rfl rfl,_,Cell.at 1 rfl rfl,_,Cell.at 1 rfl rfl,_,Cell.at 1 rfl rfl,_,Cell.at 1 rfl rfl,_,Cell.at 1 rfl rfl,rfl⟩,?_⟩
  unfold nextG nextV
  rw [if_neg (by simpa using hc9),if_neg (by omega),hdec]
  exact ⟨rfl,rfl⟩
 skip
 try refine stI ?_
 refine ⟨.tuple #[.agg oo.cells.toArray,.bool true],fun L0 hl0=>SCall.mono (Decode_spec (w := wordG g) hP hwl) (fun v L' h=>by
   unfold decodeR at h
   rw [hdec] at h
   exact stI h),?_⟩
 unfold Ord.cells
 try refine stI ?_
 try simp (dsimp:=false)(disch:=omega) only [go_sem,Φa,hP,h3_22,h3_1,h3_2,h3_4,hops,hopl,hsh,hwv]
 intro b5
 try refine stI ?_
 try simp (dsimp:=false)(disch:=omega) only [go_sem,Φa,hP,h3_22,h3_1,h3_2,h3_4,hops,hopl,hsh,hwv]
 try refine And.intro (Less.drop _ _) ?_
 try refine stI ?_
 try simp (dsimp:=false)(disch:=omega) only [go_sem,Φa,hP,h3_22,h3_1,h3_2,h3_4,hops,hopl,hsh,hwv]
 refine ⟨0,_,_,_,rfl,by decide,.inr (by decide),?_⟩
 try refine stI ?_
 try simp (dsimp:=false)(disch:=omega) only [go_sem,Φa,hP,h3_22,h3_1,h3_2,h3_4,hops,hopl,hsh,hwv]
 try refine And.intro (Less.drop _ _) ?_
 try refine stI ?_
 try simp (dsimp:=false)(disch:=omega) only [go_sem,Φa,hP,h3_22,h3_1,h3_2,h3_4,hops,hopl,hsh,hwv]
 refine hK13 _ _ ?_
 try clear hK13 K13
 refine SX.live [2,5,6] (fun T5 hT5=>?_)
 simp only [forall_mem_cons',forall_mem_nil',go_sem,Φa,hP,h3_22,h3_1,h3_2,h3_4] at hT5
 obtain ⟨h5_2,h5_5,h5_6⟩ := hT5
 clear h3_22 h3_1 h3_2 h3_4 T3
 refine SX.seq_k fun K18 hK18=>?_
 refine SX.block ?_
 refine SX.seq_k fun K19 hK19=>?_
 refine SX.region_d [some 46,some 47,some 45] rfl (fun ops hops=>?_)
 unfold Dsts at hops
 simp (dsimp:=false)(disch:=omega) only [go_sem,Φa,hP,h5_2,h5_5,h5_6,hops]
 refine hK19 _ _ ?_
 try clear hK19 K19
 refine SX.cond_k fun X20 Y20 hX20 hY20=>?_
 simp (dsimp:=false)(disch:=omega) only [go_sem,Φa,hP,h5_2,h5_5,h5_6,condVC]
 refine hY20 ?_
 clear hX20 hY20 X20 Y20
 refine SX.seq_k fun K21 hK21=>?_
 refine SX.region_d [some 50,some 51,some 52,some 49] rfl (fun ops hops=>?_)
 unfold Dsts at hops
 simp (dsimp:=false)(disch:=omega) only [go_sem,Φa,hP,h5_2,h5_5,h5_6,hops]
 refine ⟨_,Cell.at 0 rfl rfl,?_⟩
 try refine stI ?_
 try simp (dsimp:=false)(disch:=omega) only [go_sem,Φa,hP,h5_2,h5_5,h5_6,hops]
 refine hK21 _ _ ?_
 try clear hK21 K21
 refine SX.cond_k fun X22 Y22 hX22 hY22=>?_
 simp (dsimp:=false)(disch:=omega) only [go_sem,Φa,hP,h5_2,h5_5,h5_6,condVC]
 refine ⟨fun hc49=>hX22 ?_,fun hc49=>hY22 ?_⟩
 ·clear hX22 hY22 X22 Y22
  refine SX.seq_k fun K23 hK23=>?_
  refine SX.region_d [some 53,none,some 3] rfl (fun ops hops=>?_)
  unfold Dsts at hops
  simp (dsimp:=false)(disch:=omega) only [go_sem,Φa,hP,h5_2,h5_5,h5_6,hops]
  iterate 6 refine ⟨_,Cell.at 0 rfl rfl,?_⟩
  try refine stI ?_
  try simp (dsimp:=false)(disch:=omega) only [go_sem,Φa,hP,h5_2,h5_5,h5_6,hops]
  refine ⟨1,_,_,_,rfl,by decide,.inr (by decide),?_⟩
  try refine stI ?_
  try simp (dsimp:=false)(disch:=omega) only [go_sem,Φa,hP,h5_2,h5_5,h5_6,hops]
  refine hK23 _ _ ?_
  try clear hK23 K23
  refine SX.ret ?_
  simp only [andThen_normal,andThen_ret,andThen_exit,inBlk_normal,inBlk_ret,inBlk_exit,Nat.reduceEqDiff,if_true,if_false,↓reduceIte,retQ_ret]
  try simp only [res0,res1,res2,res3,stK_e,resX,resK,oneOr,ld_ptr,loadVC,loadN,List.nil_append,List.cons_append,Nat.reduceAdd,Nat.add_zero,Nat.zero_add,Addr.add_lit,Addr.add_zero',add_addS,T.elA_60,T.lay_60,T.szA_60,T.zr_60,Tryz.underlying60,go_sem,Φa,hP,h5_2,h5_5,h5_6]
  refine ⟨_,L,Less.drops (Less.drops (Less.drop _ _)),⟨_,Cell.at 1 rfl rfl,_,Cell.at 1 rfl rfl,_,Cell.at 1 rfl rfl,_,Cell.at 1 rfl rfl,_,Cell.at 1 rfl rfl,_,Cell.at 1 rfl rfl,rfl⟩,?_⟩
  unfold nextG nextV
  rw [if_neg (by simpa using hc9),if_neg (by omega),hdec]
  dsimp only
  rw [if_pos (by first | exact hc49 | omega)]
  exact ⟨rfl,rfl⟩
 clear hX22 hY22 X22 Y22
 refine SX.skip ?_
 try simp only [andThen_normal,andThen_ret,andThen_exit,inBlk_normal,inBlk_ret,inBlk_exit,Nat.reduceEqDiff,if_true,if_false,↓reduceIte]
 refine hK18 _ _ ?_
 try clear hK18 K18
 refine SX.seq_k fun K24 hK24=>?_
 refine SX.region_d [some 54,none,some 3] rfl (fun ops hops=>?_)
 unfold Dsts at hops
 simp (dsimp:=false)(disch:=omega) only [go_sem,Φa,hP,h5_2,h5_5,h5_6,hops]
 iterate 6 refine ⟨_,Cell.at 0 rfl rfl,?_⟩
 try refine stI ?_
 try simp (dsimp:=false)(disch:=omega) only [go_sem,Φa,hP,h5_2,h5_5,h5_6,hops]
 refine ⟨1,_,_,_,rfl,by decide,.inr (by decide),?_⟩
 try refine stI ?_
 try simp (dsimp:=false)(disch:=omega) only [go_sem,Φa,hP,h5_2,h5_5,h5_6,hops]
 refine hK24 _ _ ?_
 try clear hK24 K24
 refine SX.ret ?_
 simp only [andThen_normal,andThen_ret,andThen_exit,inBlk_normal,inBlk_ret,inBlk_exit,Nat.reduceEqDiff,if_true,if_false,↓reduceIte,retQ_ret]
 try simp only [res0,res1,res2,res3,stK_e,resX,resK,oneOr,ld_ptr,loadVC,loadN,List.nil_append,List.cons_append,Nat.reduceAdd,Nat.add_zero,Nat.zero_add,Addr.add_lit,Addr.add_zero',add_addS,T.elA_60,T.lay_60,T.szA_60,T.zr_60,Tryz.underlying60,go_sem,Φa,hP,h5_2,h5_5,h5_6]
 refine ⟨_,L,Less.drops (Less.drops (Less.drop _ _)),⟨_,Cell.at 1 rfl rfl,_,Cell.at 1 rfl rfl,_,Cell.at 1 rfl rfl,_,Cell.at 1 rfl rfl,_,Cell.at 1 rfl rfl,_,Cell.at 1 rfl rfl,rfl⟩,?_⟩
 unfold nextG nextV
 rw [if_neg (by simpa using hc9),if_neg (by omega),hdec]
 dsimp only
 rw [if_neg (by first | exact hc49 | omega)]
 exact ⟨rfl,rfl⟩


end Go.Proofs.YtgioegdjeodpiaaGreat
namespace Go.Proofs.YtgioegdjeodpiaaGreat
open Go.RowKit Go.SX
open Go.SX renaming ia_someH → Φa

def zeroG : GM := ⟨List.replicate 16 0,0,0,[],0,0,[],[]⟩
def stepG (g : GM) (f : Fnt) (d : Feed) : GM × Int × Int :=
 if checkE g ≠ 0 then (zeroG,0,checkE g)
 else if 65536 < f.from_ + (f.bs.length : Int) ∨ 16 ≤ d.key then (zeroG,0,1)
 else if (nextG g).2 ≠ 1 then (g,(nextG g).2,0)
 else let r := doG { g with PC := IntKind.u16.wrap (g.PC + 2) } (nextG g).1 f d
  if r.1 ≠ 1 then (g,r.1,0) else (r.2,1,0)
theorem deed_at {k : Nat} (h2 : 2 ≤ k) (h31 : k ≤ 31) : Instr.findNow (.int .u8) (.int .u8 (k : Int)) deedT 0 = some (some (k - 2,.func (.func (33 + k)) #[] #[])) := by
 have h : k = 2 ∨ k = 3 ∨ k = 4 ∨ k = 5 ∨ k = 6 ∨ k = 7 ∨ k = 8 ∨ k = 9 ∨ k = 10 ∨ k = 11 ∨ k = 12 ∨ k = 13 ∨ k = 14 ∨ k = 15 ∨ k = 16 ∨ k = 17 ∨ k = 18 ∨ k = 19 ∨ k = 20 ∨ k = 21 ∨ k = 22 ∨ k = 23 ∨ k = 24 ∨ k = 25 ∨ k = 26 ∨ k = 27 ∨ k = 28 ∨ k = 29 ∨ k = 30 ∨ k = 31 := by omega
 rcases h with rfl | rfl | rfl | rfl | rfl | rfl | rfl | rfl | rfl | rfl | rfl | rfl | rfl | rfl | rfl | rfl | rfl | rfl | rfl | rfl | rfl | rfl | rfl | rfl | rfl | rfl | rfl | rfl | rfl | rfl <;> rfl
theorem deed_callable {k : Nat} (h2 : 2 ≤ k) (h31 : k ≤ 31) : callable Tryz.prog (33 + k) = true := by
 have h : k = 2 ∨ k = 3 ∨ k = 4 ∨ k = 5 ∨ k = 6 ∨ k = 7 ∨ k = 8 ∨ k = 9 ∨ k = 10 ∨ k = 11 ∨ k = 12 ∨ k = 13 ∨ k = 14 ∨ k = 15 ∨ k = 16 ∨ k = 17 ∨ k = 18 ∨ k = 19 ∨ k = 20 ∨ k = 21 ∨ k = 22 ∨ k = 23 ∨ k = 24 ∨ k = 25 ∨ k = 26 ∨ k = 27 ∨ k = 28 ∨ k = 29 ∨ k = 30 ∨ k = 31 := by omega
 rcases h with rfl | rfl | rfl | rfl | rfl | rfl | rfl | rfl | rfl | rfl | rfl | rfl | rfl | rfl | rfl | rfl | rfl | rfl | rfl | rfl | rfl | rfl | rfl | rfl | rfl | rfl | rfl | rfl | rfl | rfl
 ·exact T.callable_35
 ·exact T.callable_36
 ·exact T.callable_37
 ·exact T.callable_38
 ·exact T.callable_39
 ·exact T.callable_40
 ·exact T.callable_41
 ·exact T.callable_42
 ·exact T.callable_43
 ·exact T.callable_44
 ·exact T.callable_45
 ·exact T.callable_46
 ·exact T.callable_47
 ·exact T.callable_48
 ·exact T.callable_49
 ·exact T.callable_50
 ·exact T.callable_51
 ·exact T.callable_52
 ·exact T.callable_53
 ·exact T.callable_54
 ·exact T.callable_55
 ·exact T.callable_56
 ·exact T.callable_57
 ·exact T.callable_58
 ·exact T.callable_59
 ·exact T.callable_60
 ·exact T.callable_61
 ·exact T.callable_62
 ·exact T.callable_63
 exact T.callable_64
theorem fs_all : (table.all fun r=>decide (r.fs = [] ∨ r.fs = [.a] ∨ r.fs = [.x,.b] ∨ r.fs = [.x,.y] ∨ r.fs = [.x,.y,.n] ∨ r.fs = [.x]) && decide (1 ≤ r.op) && decide (r.op ≤ 31)) = true := by kernel_rfl
structure DecO (o : Ord) : Prop where
 op1 : 1 ≤ o.op
 op2 : o.op ≤ 31
 x : o.x < 16
 y : o.y < 16
 n : o.n < 16
 b : o.b < 256
 a : o.a < 4096
theorem DecO.ok {o : Ord} (h : DecO o) : OkO o := ⟨by have := h.op2; omega,by have := h.x; omega,by have := h.y; omega,by have := h.n; omega,h.b,by have := h.a; omega⟩
theorem decO_op (w : Nat) (r : RowT) : (decO w r).op = r.op := by
 have : ∀ (l : List Fd) (o : Ord),(l.foldl (fun o f=>f.into o (fieldIn w f)) o).op = o.op := by
  intro l
  induction l with
  | nil=>intro o; rfl
  | cons f l ih=>intro o; rw [List.foldl_cons,ih]; cases f <;> rfl
 exact this _ _
theorem decode_dec {w : Nat} {o : Ord} (h : decode w = some o) : DecO o := by
 unfold decode at h
 cases hr : rowOf w with
 | none=>rw [hr] at h; cases h
 | some r =>
  rw [hr] at h
  cases h
  have hm : r ∈ table := List.mem_of_find?_eq_some hr
  have ht := List.all_eq_true.1 fs_all r hm
  simp only [Bool.and_eq_true,decide_eq_true_eq] at ht
  have h1 : (decO w r).op = r.op := decO_op w r
  have hx : fieldIn w .x < 16 := Nat.mod_lt _ (by decide)
  have hy : fieldIn w .y < 16 := Nat.mod_lt _ (by decide)
  have hn : fieldIn w .n < 16 := Nat.mod_lt _ (by decide)
  have hb : fieldIn w .b < 256 := Nat.mod_lt _ (by decide)
  have ha : fieldIn w .a < 4096 := Nat.mod_lt _ (by decide)
  refine ⟨by rw [h1]; exact ht.1.2,by rw [h1]; exact ht.2,?_,?_,?_,?_,?_⟩ <;>
   (unfold decO decT; rw [List.take_length]; rcases ht.1.1 with h | h | h | h | h | h <;> rw [h] <;> simp only [List.foldl_cons,List.foldl_nil,Fd.into] <;> omega)
theorem nextG_dec {g : GM} (h : (nextG g).2 = 1) : DecO (nextG g).1 ∧ 2 ≤ (nextG g).1.op := by
 unfold nextG at h ⊢
 split at h
 ·cases h
 rename_i h1
 rw [if_neg h1]
 split at h
 ·cases h
 rename_i h2
 rw [if_neg h2]
 split at h
 ·cases h
 rename_i o ho
 have hd := decode_dec ho
 split at h
 ·cases h
 rename_i h3
 rw [if_neg h3]
 exact ⟨hd,by have := hd.op1; show 2 ≤ o.op; omega⟩
def stepR (r : GM × Int × Int) (L : Hp) (v : Value) (L' : Hp) : Prop := ∃ sv pv mv s1 s2 s3,v = .tuple #[.agg (r.1.cells sv pv mv).toArray,.int .u8 r.2.1,.int .i64 r.2.2] ∧ L' = s1 :: s2 :: s3 :: L ∧ Rows r.1 sv pv mv s1 s2 s3
set_option maxHeartbeats 1000000 in
set_option maxRecDepth 100000 in
theorem Step_spec {Γ : Ctx} (hP : Γ.P = Tryz.prog) {L : Hp} {g : GM} {sv pv mv : Value} {f : Fnt} {fv : Value} {d : Feed} (hg : OkG g) (hF : OkF f) (hd : OkD d) (hs : SlI .u16 (Cell Γ L) sv g.st) (hp : SlI .u8 (Cell Γ L) pv g.pg) (hm : SlI .u8 (Cell Γ L) mv g.mm) (hf : SlI .u8 (Cell Γ L) fv f.bs) (hsl : g.st.length ≤ 2147483647) (hpl : g.pg.length ≤ 2147483647) (hml : g.mm.length ≤ 2147483647) (hfl : f.bs.length ≤ 2147483647) :
  SCall Γ 16 #[(.agg (g.cells sv pv mv).toArray),(.agg (f.cells fv).toArray),(.agg d.cells.toArray)] L (stepR (stepG g f d) L) := by
 obtain ⟨As,cs,rfl,hcs⟩ := slShape hs
 obtain ⟨Ap,cp,rfl,hcp⟩ := slShape hp
 obtain ⟨Am,cm,rfl,hcm⟩ := slShape hm
 obtain ⟨Af,cf,rfl,hcf⟩ := slShape hf
 have hPCb := hg.PC
 have hfrb := hF.from_
 refine SCall.enter (n := 74) (resX Γ [.cell 6 27,.tmp 7,.tmp 8]) (hP ▸ Tryz.func16) rfl rfl (by simp) (resX_ok rfl) ?_
 refine SX.seq_k fun K1 hK1=>?_
 refine SX.region_d [some 3,some 4,some 5,some 6,some 7,some 8] rfl (fun ops hops=>?_)
 unfold Dsts at hops
 simp (dsimp:=false)(disch:=omega) only [go_sem,Φa,hP,hops]
 intro b0
 try refine stI ?_
 try simp (dsimp:=false)(disch:=omega) only [go_sem,Φa,hP,hops]
 intro b1
 try refine stI ?_
 try simp (dsimp:=false)(disch:=omega) only [go_sem,Φa,hP,hops]
 intro b2
 try refine stI ?_
 try simp (dsimp:=false)(disch:=omega) only [go_sem,Φa,hP,hops]
 intro b3
 try refine stI ?_
 try simp (dsimp:=false)(disch:=omega) only [go_sem,Φa,hP,hops]
 refine hK1 _ _ ?_
 try clear hK1 K1
 refine SX.seq_k fun K2 hK2=>?_
 refine SX.seq_k fun K3 hK3=>?_
 refine SX.region_d [some 13,some 14,some 9] rfl (fun ops hops=>?_)
 unfold Dsts at hops
 simp (dsimp:=false)(disch:=omega) only [go_sem,Φa,hP,hops]
 iterate 23 refine ⟨_,Cell.at 3 rfl rfl,?_⟩
 try refine stI ?_
 try simp (dsimp:=false)(disch:=omega) only [go_sem,Φa,hP,hops]
 first | (refine SCall.mono (Check_spec (g := g) (sv := .slice As g.st.length cs) (pv := .slice Ap g.pg.length cp) (mv := .slice Am g.mm.length cm) hP (SlI.cons _ (SlI.cons _ (SlI.cons _ (SlI.cons _ hs)))) (SlI.cons _ (SlI.cons _ (SlI.cons _ (SlI.cons _ hp)))) (SlI.cons _ (SlI.cons _ (SlI.cons _ (SlI.cons _ hm)))) (by omega) (by omega) (by omega)) ?_; rintro v_ L_ ⟨hv_,hL_⟩; rw [hv_,hL_]; clear hv_ hL_ v_ L_) | refine ⟨_,Check_spec (g := g) (sv := .slice As g.st.length cs) (pv := .slice Ap g.pg.length cp) (mv := .slice Am g.mm.length cm) hP (SlI.cons _ (SlI.cons _ (SlI.cons _ (SlI.cons _ hs)))) (SlI.cons _ (SlI.cons _ (SlI.cons _ (SlI.cons _ hp)))) (SlI.cons _ (SlI.cons _ (SlI.cons _ (SlI.cons _ hm)))) (by omega) (by omega) (by omega),?_⟩ | refine ⟨_,fun L0 hl0=>Check_spec (g := g) (sv := .slice As g.st.length cs) (pv := .slice Ap g.pg.length cp) (mv := .slice Am g.mm.length cm) hP (SlI.cons _ (SlI.cons _ (SlI.cons _ (SlI.cons _ hs)))) (SlI.cons _ (SlI.cons _ (SlI.cons _ (SlI.cons _ hp)))) (SlI.cons _ (SlI.cons _ (SlI.cons _ (SlI.cons _ hm)))) (by omega) (by omega) (by omega),?_⟩
 try refine stI ?_
 try simp (dsimp:=false)(disch:=omega) only [go_sem,Φa,hP,hops]
 refine hK3 _ _ ?_
 try clear hK3 K3
 refine SX.live [3,4,5,6,9] (fun T1 hT1=>?_)
 simp only [forall_mem_cons',forall_mem_nil',go_sem,Φa,hP] at hT1
 obtain ⟨h1_3,h1_4,h1_5,h1_6,h1_9⟩ := hT1
 refine SX.seq_k fun K4 hK4=>?_
 refine SX.region_d [some 15,some 16] rfl (fun ops hops=>?_)
 unfold Dsts at hops
 simp (dsimp:=false)(disch:=omega) only [go_sem,Φa,hP,h1_3,h1_4,h1_5,h1_6,h1_9,hops]
 repeat' ((first | refine And.intro (by omega) ?_ | fail); try refine stI ?_; try simp (dsimp:=false)(disch:=omega) only [go_sem,Φa,hP,h1_3,h1_4,h1_5,h1_6,h1_9,hops])
 refine hK4 _ _ ?_
 try clear hK4 K4
 refine SX.cond_k fun X5 Y5 hX5 hY5=>?_
 simp (dsimp:=false)(disch:=omega) only [go_sem,Φa,hP,h1_3,h1_4,h1_5,h1_6,h1_9,condVC]
 refine ⟨fun hc16=>hX5 ?_,fun hc16=>hY5 ?_⟩
 ·clear hX5 hY5 X5 Y5
  refine SX.seq_k fun K6 hK6=>?_
  refine SX.region_d [some 17,some 18,none,some 7,some 8] rfl (fun ops hops=>?_)
  unfold Dsts at hops
  simp (dsimp:=false)(disch:=omega) only [go_sem,Φa,hP,h1_3,h1_4,h1_5,h1_6,h1_9,hops]
  refine ⟨0,_,_,_,rfl,by decide,.inr (by decide),?_⟩
  try refine stI ?_
  try simp (dsimp:=false)(disch:=omega) only [go_sem,Φa,hP,h1_3,h1_4,h1_5,h1_6,h1_9,hops]
  refine hK6 _ _ ?_
  try clear hK6 K6
  refine SX.ret ?_
  simp only [andThen_normal,andThen_ret,andThen_exit,inBlk_normal,inBlk_ret,inBlk_exit,Nat.reduceEqDiff,if_true,if_false,↓reduceIte,retQ_ret]
  try simp only [res0,res1,res2,res3,stK_e,resX,resK,oneOr,ld_ptr,loadVC,loadN,List.nil_append,List.cons_append,Nat.reduceAdd,Nat.add_zero,Nat.zero_add,Addr.add_lit,Addr.add_zero',add_addS,T.elA_27,T.lay_27,T.szA_27,T.zr_27,Tryz.underlying27,go_sem,Φa,hP,h1_3,h1_4,h1_5,h1_6,h1_9]
  refine ⟨_,_,(Less.drops (Less.drops (Less.drops (Less.drop _ _)))).trans ((Less.none _).trans ((Less.none _).trans (Less.none _))),⟨_,Cell.at 0 rfl rfl,_,Cell.at 0 rfl rfl,_,Cell.at 0 rfl rfl,_,Cell.at 0 rfl rfl,_,Cell.at 0 rfl rfl,_,Cell.at 0 rfl rfl,_,Cell.at 0 rfl rfl,_,Cell.at 0 rfl rfl,_,Cell.at 0 rfl rfl,_,Cell.at 0 rfl rfl,_,Cell.at 0 rfl rfl,_,Cell.at 0 rfl rfl,_,Cell.at 0 rfl rfl,_,Cell.at 0 rfl rfl,_,Cell.at 0 rfl rfl,_,Cell.at 0 rfl rfl,_,Cell.at 0 rfl rfl,_,Cell.at 0 rfl rfl,_,Cell.at 0 rfl rfl,_,Cell.at 0 rfl rfl,_,Cell.at 0 rfl rfl,_,Cell.at 0 rfl rfl,_,Cell.at 0 rfl rfl,rfl⟩,?_⟩
  unfold stepG
  rw [if_pos (by omega)]
  exact ⟨_,_,_,_,_,_,rfl,rfl,⟨RowI.nil _ _,RowI.nil _ _,RowI.nil _ _⟩⟩
 clear hX5 hY5 X5 Y5
 refine SX.skip ?_
 try simp only [andThen_normal,andThen_ret,andThen_exit,inBlk_normal,inBlk_ret,inBlk_exit,Nat.reduceEqDiff,if_true,if_false,↓reduceIte]
 refine hK2 _ _ ?_
 try clear hK2 K2
 refine SX.seq_k fun K7 hK7=>?_
 refine SX.seq_k fun K8 hK8=>?_
 refine SX.region_xd [some 19,some 20,some 21,some 22,some 23,some 24,some 25,some 26,some 27,some 28,some 29,some 30,some 31] rfl (fun ops hops=>?_)
 unfold Dsts at hops
 refine RX.live [3,4,5,6] (fun T2 hT2=>?_)
 simp only [forall_mem_cons',forall_mem_nil',go_sem,Φa,hP,h1_3,h1_4,h1_5,h1_6,h1_9] at hT2
 obtain ⟨h2_3,h2_4,h2_5,h2_6⟩ := hT2
 clear h1_3 h1_4 h1_5 h1_6 h1_9 T1
 refine RX.join 13 (fun (ss : Unit) T L'=>T 31 = .bool (decide (65536 < f.from_ + (f.bs.length : Int)) || decide (16 ≤ d.key)) ∧ T 3 = T2 3 ∧ T 4 = T2 4 ∧ T 5 = T2 5 ∧ T 6 = T2 6 ∧ L' = some (b3,.cells #[.int .u8 0,.int .u8 0,.int .u8 0,.int .u8 0,.int .u8 0,.int .u8 0,.int .u8 0,.int .u8 0,.int .u8 0,.int .u8 0,.int .u8 0,.int .u8 0,.int .u8 0,.int .u8 0,.int .u8 0,.int .u8 0,.int .u16 0,.int .u16 0,.slice none 0 0,.int .u8 0,.int .u8 0,.slice none 0 0,.slice none 0 0] 27 (0,0)) :: some (b2,.cells d.cells.toArray 38 (0,0)) :: some (b1,.cells (f.cells (.slice Af f.bs.length cf)).toArray 30 (0,0)) :: some (b0,.cells (g.cells (.slice As g.st.length cs) (.slice Ap g.pg.length cp) (.slice Am g.mm.length cm)).toArray 27 (0,0)) :: L ∧ (True)) (fun K9 hK9=>?_) ?_
 ·simp only [h2_3,h2_4,h2_5,h2_6] at hK9
  simp (dsimp:=false)(disch:=omega) only [go_sem,Φa,hP,h2_3,h2_4,h2_5,h2_6,hops]
  repeat' (first | refine iteB (fun hg=>?_) (fun hg=>?_) | refine iteI (fun hg=>?_) (fun hg=>?_) | ((first | refine ⟨_,Cell.at 2 rfl (show (f.cells _)[16]? = _ from rfl),?_⟩ | refine ⟨_,Cell.at 2 rfl (show (f.cells _)[17]? = _ from rfl),?_⟩ | refine ⟨_,Cell.at 1 rfl (show (d.cells)[2]? = _ from rfl),?_⟩ | refine And.intro (by omega) ?_ | refine ⟨_,Cell.at 0 rfl rfl,?_⟩ | refine ⟨_,Cell.at 1 rfl rfl,?_⟩ | refine ⟨_,Cell.at 2 rfl rfl,?_⟩ | refine ⟨_,Cell.at 3 rfl rfl,?_⟩ | fail); try refine stI ?_; try simp (dsimp:=false)(disch:=omega) only [go_sem,Φa,hP,h2_3,h2_4,h2_5,h2_6,hops]) | fail)
  all_goals
   refine hK9 () _ (some (b3,.cells #[.int .u8 0,.int .u8 0,.int .u8 0,.int .u8 0,.int .u8 0,.int .u8 0,.int .u8 0,.int .u8 0,.int .u8 0,.int .u8 0,.int .u8 0,.int .u8 0,.int .u8 0,.int .u8 0,.int .u8 0,.int .u8 0,.int .u16 0,.int .u16 0,.slice none 0 0,.int .u8 0,.int .u8 0,.slice none 0 0,.slice none 0 0] 27 (0,0)) :: some (b2,.cells d.cells.toArray 38 (0,0)) :: some (b1,.cells (f.cells (.slice Af f.bs.length cf)).toArray 30 (0,0)) :: some (b0,.cells (g.cells (.slice As g.st.length cs) (.slice Ap g.pg.length cp) (.slice Am g.mm.length cm)).toArray 27 (0,0)) :: L) _ (by first | exact Less.refl _ | exact Less.drop _ _ | exact Less.drops (Less.drop _ _) | exact Less.drops (Less.drops (Less.drop _ _)) | exact Less.drops (Less.drops (Less.drops (Less.drop _ _))) | exact Less.drops (Less.drops (Less.drops (Less.drops (Less.drop _ _))))) ?_
   try dsimp only
   refine ⟨?_,?_,?_,?_,?_,?_,?_⟩
   ·simp (dsimp:=false)(disch:=omega) only [go_sem,Φa,hP,h2_3,h2_4,h2_5,h2_6]
    first | done | (refine congrArg Value.bool ?_; simp_all; done) | (refine congrArg Value.bool ?_; simp_all; omega)
   ·simp (dsimp:=false)(disch:=omega) only [go_sem,Φa,hP,h2_3,h2_4,h2_5,h2_6]
   ·simp (dsimp:=false)(disch:=omega) only [go_sem,Φa,hP,h2_3,h2_4,h2_5,h2_6]
   ·simp (dsimp:=false)(disch:=omega) only [go_sem,Φa,hP,h2_3,h2_4,h2_5,h2_6]
   ·simp (dsimp:=false)(disch:=omega) only [go_sem,Φa,hP,h2_3,h2_4,h2_5,h2_6]
   ·rfl
   trivial
 intro ss T3 L3 hI
 simp only [h2_3,h2_4,h2_5,h2_6] at hI 
 obtain ⟨h3_31,h3_3,h3_4,h3_5,h3_6,hL3,hinv⟩ := hI
 replace hL3 := hL3.symm
 subst hL3
 clear h2_3 h2_4 h2_5 h2_6 T2
 refine RX.done ?_
 simp (dsimp:=false)(disch:=omega) only [go_sem,Φa,hP,h3_31,h3_3,h3_4,h3_5,h3_6,hops]
 refine hK8 _ _ ?_
 try clear hK8 K8
 refine SX.cond_k fun X10 Y10 hX10 hY10=>?_
 simp (dsimp:=false)(disch:=omega) only [go_sem,Φa,hP,h3_31,h3_3,h3_4,h3_5,h3_6,condVC]
 refine ⟨fun hc31=>hX10 ?_,fun hc31=>hY10 ?_⟩
 ·clear hX10 hY10 X10 Y10
  refine SX.seq_k fun K11 hK11=>?_
  refine SX.region_d [some 32,none,some 7,some 8] rfl (fun ops hops=>?_)
  unfold Dsts at hops
  simp (dsimp:=false)(disch:=omega) only [go_sem,Φa,hP,h3_31,h3_3,h3_4,h3_5,h3_6,hops]
  refine ⟨0,_,_,_,rfl,by decide,.inr (by decide),?_⟩
  try refine stI ?_
  try simp (dsimp:=false)(disch:=omega) only [go_sem,Φa,hP,h3_31,h3_3,h3_4,h3_5,h3_6,hops]
  refine hK11 _ _ ?_
  try clear hK11 K11
  refine SX.ret ?_
  simp only [andThen_normal,andThen_ret,andThen_exit,inBlk_normal,inBlk_ret,inBlk_exit,Nat.reduceEqDiff,if_true,if_false,↓reduceIte,retQ_ret]
  try simp only [res0,res1,res2,res3,stK_e,resX,resK,oneOr,ld_ptr,loadVC,loadN,List.nil_append,List.cons_append,Nat.reduceAdd,Nat.add_zero,Nat.zero_add,Addr.add_lit,Addr.add_zero',add_addS,T.elA_27,T.lay_27,T.szA_27,T.zr_27,Tryz.underlying27,go_sem,Φa,hP,h3_31,h3_3,h3_4,h3_5,h3_6]
  refine ⟨_,_,(Less.drops (Less.drops (Less.drops (Less.drop _ _)))).trans ((Less.none _).trans ((Less.none _).trans (Less.none _))),⟨_,Cell.at 0 rfl rfl,_,Cell.at 0 rfl rfl,_,Cell.at 0 rfl rfl,_,Cell.at 0 rfl rfl,_,Cell.at 0 rfl rfl,_,Cell.at 0 rfl rfl,_,Cell.at 0 rfl rfl,_,Cell.at 0 rfl rfl,_,Cell.at 0 rfl rfl,_,Cell.at 0 rfl rfl,_,Cell.at 0 rfl rfl,_,Cell.at 0 rfl rfl,_,Cell.at 0 rfl rfl,_,Cell.at 0 rfl rfl,_,Cell.at 0 rfl rfl,_,Cell.at 0 rfl rfl,_,Cell.at 0 rfl rfl,_,Cell.at 0 rfl rfl,_,Cell.at 0 rfl rfl,_,Cell.at 0 rfl rfl,_,Cell.at 0 rfl rfl,_,Cell.at 0 rfl rfl,_,Cell.at 0 rfl rfl,rfl⟩,?_⟩
  unfold stepG
  rw [if_neg (by omega),if_pos (by simpa using hc31)]
  exact ⟨_,_,_,_,_,_,rfl,rfl,⟨RowI.nil _ _,RowI.nil _ _,RowI.nil _ _⟩⟩
 clear hX10 hY10 X10 Y10
 refine SX.skip ?_
 try simp only [andThen_normal,andThen_ret,andThen_exit,inBlk_normal,inBlk_ret,inBlk_exit,Nat.reduceEqDiff,if_true,if_false,↓reduceIte]
 refine hK7 _ _ ?_
 try clear hK7 K7
 refine SX.seq_k fun K12 hK12=>?_
 have hsl2 : g.st.length ≤ 1000000 := by unfold checkE at hc16; split at hc16 <;> omega
 have hpl2 : g.pg.length ≤ 1000000 := by unfold checkE at hc16; split at hc16 <;> omega
 have hml2 : g.mm.length ≤ 1000000 := by unfold checkE at hc16; split at hc16 <;> omega
 refine SX.region_d [some 34,some 35,some 33,some 36,some 37,some 10,none,some 11] rfl (fun ops hops=>?_)
 unfold Dsts at hops
 simp (dsimp:=false)(disch:=omega) only [go_sem,Φa,hP,h3_31,h3_3,h3_4,h3_5,h3_6,hops]
 iterate 23 refine ⟨_,Cell.at 3 rfl rfl,?_⟩
 try refine stI ?_
 try simp (dsimp:=false)(disch:=omega) only [go_sem,Φa,hP,h3_31,h3_3,h3_4,h3_5,h3_6,hops]
 first | (refine SCall.mono (Next_spec (g := g) (sv := .slice As g.st.length cs) (pv := .slice Ap g.pg.length cp) (mv := .slice Am g.mm.length cm) hP hg (SlI.cons _ (SlI.cons _ (SlI.cons _ (SlI.cons _ hs)))) (SlI.cons _ (SlI.cons _ (SlI.cons _ (SlI.cons _ hp)))) (SlI.cons _ (SlI.cons _ (SlI.cons _ (SlI.cons _ hm)))) (by omega) (by omega) (by omega)) ?_; rintro v_ L_ ⟨hv_,hL_⟩; rw [hv_,hL_]; clear hv_ hL_ v_ L_) | refine ⟨_,Next_spec (g := g) (sv := .slice As g.st.length cs) (pv := .slice Ap g.pg.length cp) (mv := .slice Am g.mm.length cm) hP hg (SlI.cons _ (SlI.cons _ (SlI.cons _ (SlI.cons _ hs)))) (SlI.cons _ (SlI.cons _ (SlI.cons _ (SlI.cons _ hp)))) (SlI.cons _ (SlI.cons _ (SlI.cons _ (SlI.cons _ hm)))) (by omega) (by omega) (by omega),?_⟩ | refine ⟨_,fun L0 hl0=>Next_spec (g := g) (sv := .slice As g.st.length cs) (pv := .slice Ap g.pg.length cp) (mv := .slice Am g.mm.length cm) hP hg (SlI.cons _ (SlI.cons _ (SlI.cons _ (SlI.cons _ hs)))) (SlI.cons _ (SlI.cons _ (SlI.cons _ (SlI.cons _ hp)))) (SlI.cons _ (SlI.cons _ (SlI.cons _ (SlI.cons _ hm)))) (by omega) (by omega) (by omega),?_⟩
 unfold nextV Ord.cells
 try refine stI ?_
 try simp (dsimp:=false)(disch:=omega) only [go_sem,Φa,hP,h3_31,h3_3,h3_4,h3_5,h3_6,hops]
 intro b4
 try refine stI ?_
 try simp (dsimp:=false)(disch:=omega) only [go_sem,Φa,hP,h3_31,h3_3,h3_4,h3_5,h3_6,hops]
 refine ⟨0,_,_,_,rfl,by decide,.inr (by decide),?_⟩
 try refine stI ?_
 try simp (dsimp:=false)(disch:=omega) only [go_sem,Φa,hP,h3_31,h3_3,h3_4,h3_5,h3_6,hops]
 refine hK12 _ _ ?_
 try clear hK12 K12
 refine SX.seq_k fun K13 hK13=>?_
 refine SX.seq_k fun K14 hK14=>?_
 refine SX.region_d [some 38,some 39] rfl (fun ops hops=>?_)
 unfold Dsts at hops
 simp (dsimp:=false)(disch:=omega) only [go_sem,Φa,hP,h3_31,h3_3,h3_4,h3_5,h3_6,hops]
 repeat' ((first | refine And.intro (by omega) ?_ | fail); try refine stI ?_; try simp (dsimp:=false)(disch:=omega) only [go_sem,Φa,hP,h3_31,h3_3,h3_4,h3_5,h3_6,hops])
 refine hK14 _ _ ?_
 try clear hK14 K14
 refine SX.live [3,4,5,6,10,11,39] (fun T4 hT4=>?_)
 simp only [forall_mem_cons',forall_mem_nil',go_sem,Φa,hP,h3_31,h3_3,h3_4,h3_5,h3_6] at hT4
 obtain ⟨h4_3,h4_4,h4_5,h4_6,h4_10,h4_11,h4_39⟩ := hT4
 clear h3_31 h3_3 h3_4 h3_5 h3_6 T3
 refine SX.cond_k fun X15 Y15 hX15 hY15=>?_
 simp (dsimp:=false)(disch:=omega) only [go_sem,Φa,hP,h4_3,h4_4,h4_5,h4_6,h4_10,h4_11,h4_39,condVC]
 refine ⟨fun hc39=>hX15 ?_,fun hc39=>hY15 ?_⟩
 ·clear hX15 hY15 X15 Y15
  refine SX.seq_k fun K16 hK16=>?_
  refine SX.region_d [some 40,some 41,some 42,none,some 7,some 8] rfl (fun ops hops=>?_)
  unfold Dsts at hops
  simp (dsimp:=false)(disch:=omega) only [go_sem,Φa,hP,h4_3,h4_4,h4_5,h4_6,h4_10,h4_11,h4_39,hops]
  iterate 23 refine ⟨_,Cell.at 4 rfl rfl,?_⟩
  try refine stI ?_
  try simp (dsimp:=false)(disch:=omega) only [go_sem,Φa,hP,h4_3,h4_4,h4_5,h4_6,h4_10,h4_11,h4_39,hops]
  refine SCall.mono (clone_spec (g := g) (sv := .slice As g.st.length cs) (pv := .slice Ap g.pg.length cp) (mv := .slice Am g.mm.length cm) hP (SlI.cons _ (SlI.cons _ (SlI.cons _ (SlI.cons _ (SlI.cons _ hs))))) (SlI.cons _ (SlI.cons _ (SlI.cons _ (SlI.cons _ (SlI.cons _ hp))))) (SlI.cons _ (SlI.cons _ (SlI.cons _ (SlI.cons _ (SlI.cons _ hm))))) hsl2 hpl2 hml2) ?_
  rintro v_ L_ ⟨sv',pv',mv',t1,t2,t3,rfl,rfl,hrc⟩
  obtain ⟨Z1,z1,rfl,hz1⟩ := rowShape hrc.st
  obtain ⟨Z2,z2,rfl,hz2⟩ := rowShape hrc.pg
  obtain ⟨Z3,z3,rfl,hz3⟩ := rowShape hrc.mm
  unfold GM.cells
  try refine stI ?_
  try simp (dsimp:=false)(disch:=omega) only [go_sem,Φa,hP,h4_3,h4_4,h4_5,h4_6,h4_10,h4_11,h4_39,hops]
  refine ⟨4,_,_,_,rfl,by decide,.inr (by decide),?_⟩
  try refine stI ?_
  try simp (dsimp:=false)(disch:=omega) only [go_sem,Φa,hP,h4_3,h4_4,h4_5,h4_6,h4_10,h4_11,h4_39,hops]
  refine hK16 _ _ ?_
  try clear hK16 K16
  refine SX.ret ?_
  simp only [andThen_normal,andThen_ret,andThen_exit,inBlk_normal,inBlk_ret,inBlk_exit,Nat.reduceEqDiff,if_true,if_false,↓reduceIte,retQ_ret]
  try simp only [res0,res1,res2,res3,stK_e,resX,resK,oneOr,ld_ptr,loadVC,loadN,List.nil_append,List.cons_append,Nat.reduceAdd,Nat.add_zero,Nat.zero_add,Addr.add_lit,Addr.add_zero',add_addS,T.elA_27,T.lay_27,T.szA_27,T.zr_27,Tryz.underlying27,go_sem,Φa,hP,h4_3,h4_4,h4_5,h4_6,h4_10,h4_11,h4_39]
  refine ⟨_,_,Less.sublist (.cons_cons _ (.cons_cons _ (.cons_cons _ (.cons _ (.cons _ (.cons _ (.cons _ (.cons _ (List.Sublist.refl _))))))))),⟨_,Cell.at 4 rfl rfl,_,Cell.at 4 rfl rfl,_,Cell.at 4 rfl rfl,_,Cell.at 4 rfl rfl,_,Cell.at 4 rfl rfl,_,Cell.at 4 rfl rfl,_,Cell.at 4 rfl rfl,_,Cell.at 4 rfl rfl,_,Cell.at 4 rfl rfl,_,Cell.at 4 rfl rfl,_,Cell.at 4 rfl rfl,_,Cell.at 4 rfl rfl,_,Cell.at 4 rfl rfl,_,Cell.at 4 rfl rfl,_,Cell.at 4 rfl rfl,_,Cell.at 4 rfl rfl,_,Cell.at 4 rfl rfl,_,Cell.at 4 rfl rfl,_,Cell.at 4 rfl rfl,_,Cell.at 4 rfl rfl,_,Cell.at 4 rfl rfl,_,Cell.at 4 rfl rfl,_,Cell.at 4 rfl rfl,rfl⟩,?_⟩
  unfold stepG
  rw [if_neg (by omega),if_neg (by simp at hc31; omega),if_pos (by omega)]
  exact ⟨_,_,_,t1,t2,t3,rfl,rfl,hrc⟩
 clear hX15 hY15 X15 Y15
 refine SX.skip ?_
 try simp only [andThen_normal,andThen_ret,andThen_exit,inBlk_normal,inBlk_ret,inBlk_exit,Nat.reduceEqDiff,if_true,if_false,↓reduceIte]
 refine hK13 _ _ ?_
 try clear hK13 K13
 refine SX.seq_k fun K17 hK17=>?_
 refine SX.drawn_d [(0,.q),(2,.q),(3,.q),(4,.q),(1,.e),(5,.q),(6,.e),(7,.q)] (fun L=>L) (hP ▸ T.mixed) (by kernel_rfl) (by exact Less.refl _) [some 43,some 44,some 45,some 46,some 47,some 48,some 49,some 12] rfl (fun ops hops hopl=>?_)
 unfold Dsts at hops
 simp (dsimp:=false)(disch:=omega) only [go_sem,Φa,hP,h4_3,h4_4,h4_5,h4_6,h4_10,h4_11,h4_39,hops,hopl]
 iterate 23 refine ⟨_,Cell.at 4 rfl rfl,?_⟩
 try refine stI ?_
 try simp (dsimp:=false)(disch:=omega) only [go_sem,Φa,hP,h4_3,h4_4,h4_5,h4_6,h4_10,h4_11,h4_39,hops,hopl]
 iterate 6 refine ⟨_,Cell.at 0 rfl rfl,?_⟩
 try refine stI ?_
 try simp (dsimp:=false)(disch:=omega) only [go_sem,Φa,hP,h4_3,h4_4,h4_5,h4_6,h4_10,h4_11,h4_39,hops,hopl]
 iterate 18 refine ⟨_,Cell.at 3 rfl rfl,?_⟩
 try refine stI ?_
 try simp (dsimp:=false)(disch:=omega) only [go_sem,Φa,hP,h4_3,h4_4,h4_5,h4_6,h4_10,h4_11,h4_39,hops,hopl]
 refine ⟨_,Cell.at 2 rfl rfl,?_⟩
 try refine stI ?_
 try simp (dsimp:=false)(disch:=omega) only [go_sem,Φa,hP,h4_3,h4_4,h4_5,h4_6,h4_10,h4_11,h4_39,hops,hopl]
 refine ⟨_,Cell.at 2 rfl rfl,?_⟩
 try refine stI ?_
 try simp (dsimp:=false)(disch:=omega) only [go_sem,Φa,hP,h4_3,h4_4,h4_5,h4_6,h4_10,h4_11,h4_39,hops,hopl]
 refine ⟨_,Cell.at 2 rfl rfl,?_⟩
 try refine stI ?_
 try simp (dsimp:=false)(disch:=omega) only [go_sem,Φa,hP,h4_3,h4_4,h4_5,h4_6,h4_10,h4_11,h4_39,hops,hopl]
 refine SCall.mono (clone_spec (g := g) (sv := .slice As g.st.length cs) (pv := .slice Ap g.pg.length cp) (mv := .slice Am g.mm.length cm) hP (SlI.cons _ (SlI.cons _ (SlI.cons _ (SlI.cons _ (SlI.cons _ hs))))) (SlI.cons _ (SlI.cons _ (SlI.cons _ (SlI.cons _ (SlI.cons _ hp))))) (SlI.cons _ (SlI.cons _ (SlI.cons _ (SlI.cons _ (SlI.cons _ hm))))) hsl2 hpl2 hml2) ?_
 rintro v_ L_ ⟨sv1,pv1,mv1,t1,t2,t3,rfl,rfl,hrc⟩
 obtain ⟨Y1,y1,rfl,hy1⟩ := rowShape hrc.st
 obtain ⟨Y2,y2,rfl,hy2⟩ := rowShape hrc.pg
 obtain ⟨Y3,y3,rfl,hy3⟩ := rowShape hrc.mm
 unfold GM.cells
 try refine stI ?_
 try simp (dsimp:=false)(disch:=omega) only [go_sem,Φa,hP,h4_3,h4_4,h4_5,h4_6,h4_10,h4_11,h4_39,hops,hopl]
 refine And.intro (Less.drops (Less.drops (Less.drop _ _))) ?_
 try refine stI ?_
 try simp (dsimp:=false)(disch:=omega) only [go_sem,Φa,hP,h4_3,h4_4,h4_5,h4_6,h4_10,h4_11,h4_39,hops,hopl]
 intro bp
 try refine stI ?_
 try simp (dsimp:=false)(disch:=omega) only [go_sem,Φa,hP,h4_3,h4_4,h4_5,h4_6,h4_10,h4_11,h4_39,hops,hopl]
 try refine And.intro (Less.drop _ _) ?_
 try refine stI ?_
 try simp (dsimp:=false)(disch:=omega) only [go_sem,Φa,hP,h4_3,h4_4,h4_5,h4_6,h4_10,h4_11,h4_39,hops,hopl]
 refine hK17 _ _ ?_
 try clear hK17 K17
 refine SX.seq_k fun K18 hK18=>?_
 refine SX.region_d [some 50,some 51,some 52,some 53,some 54,some 55,some 56,some 57,some 58,none] rfl (fun ops hops=>?_)
 unfold Dsts at hops
 simp (dsimp:=false)(disch:=omega) only [go_sem,Φa,hP,h4_3,h4_4,h4_5,h4_6,h4_10,h4_11,h4_39,hops]
 repeat' ((first | refine ⟨_,Cell.at 0 rfl rfl,?_⟩ | refine ⟨_,Cell.at 1 rfl rfl,?_⟩ | refine ⟨_,Cell.at 2 rfl rfl,?_⟩ | refine ⟨_,Cell.at 3 rfl rfl,?_⟩ | refine ⟨0,_,_,_,rfl,(by first | decide | omega | simp),.inr (by first | decide | omega | simp),?_⟩ | refine ⟨1,_,_,_,rfl,(by first | decide | omega | simp),.inr (by first | decide | omega | simp),?_⟩ | refine ⟨2,_,_,_,rfl,(by first | decide | omega | simp),.inr (by first | decide | omega | simp),?_⟩ | refine ⟨3,_,_,_,rfl,(by first | decide | omega | simp),.inr (by first | decide | omega | simp),?_⟩ | refine And.intro (by omega) ?_ | fail); try refine stI ?_; try simp (dsimp:=false)(disch:=omega) only [go_sem,Φa,hP,h4_3,h4_4,h4_5,h4_6,h4_10,h4_11,h4_39,hops])
 refine hK18 _ _ ?_
 try clear hK18 K18
 refine SX.live [3,6,10,12] (fun T5 hT5=>?_)
 simp only [forall_mem_cons',forall_mem_nil',go_sem,Φa,hP,h4_3,h4_4,h4_5,h4_6,h4_10,h4_11,h4_39] at hT5
 obtain ⟨h5_3,h5_6,h5_10,h5_12⟩ := hT5
 clear h4_3 h4_4 h4_5 h4_6 h4_10 h4_11 h4_39 T4
 refine SX.seq_k fun K19 hK19=>?_
 refine SX.seq_k fun K20 hK20=>?_
 have hdec := (nextG_dec (g := g) (by simpa using hc39)).1
 have hop2 := (nextG_dec (g := g) (by simpa using hc39)).2
 have hop3 : (nextG g).1.op ≤ 31 := hdec.op2
 have hoo : OkO (nextG g).1 := hdec.ok
 have hox : (nextG g).1.x < 16 := hdec.x
 have hoy : (nextG g).1.y < 16 := hdec.y
 have hon : (nextG g).1.n < 16 := hdec.n
 have hst3 : g.st.length ≤ 12 := by unfold checkE at hc16; split at hc16 <;> omega
 have hml3 : g.mm.length = 3232 := by unfold checkE at hc16; split at hc16 <;> omega
 have hpl3 : g.pg.length = 256 := by unfold checkE at hc16; split at hc16 <;> omega
 have hg1 : OkG { g with PC := IntKind.u16.wrap (g.PC + 2) } := ⟨hg.V,hg.Vb,hg.I,by
   show 0 ≤ IntKind.u16.wrap (g.PC + 2) ∧ IntKind.u16.wrap (g.PC + 2) ≤ 65535
   rw [IntKind.wrap_u16]
   omega,hg.st,hg.dl,hg.sd,hg.pg,hg.mm⟩
 refine SX.drawn_d [(1,.q),(2,.q),(4,.q),(0,.e),(3,.q),(5,.t),(6,.t)] (fun L=>L) (hP ▸ T.mixed) (by kernel_rfl) (by exact Less.refl _) [some 59,some 60,some 61,some 62,some 63,some 64,some 11] rfl (fun ops hops hopl=>?_)
 unfold Dsts at hops
 simp (dsimp:=false)(disch:=omega) only [go_sem,Φa,hP,h5_3,h5_6,h5_10,h5_12,hops,hopl]
 refine ⟨_,Cell.at 4 rfl rfl,?_⟩
 try refine stI ?_
 try simp (dsimp:=false)(disch:=omega) only [go_sem,Φa,hP,h5_3,h5_6,h5_10,h5_12,hops,hopl]
 refine SCall.mono (deeds_spec hP) ?_
 rintro v_ L_ ⟨bm,rfl,rfl⟩
 try refine stI ?_
 try simp (dsimp:=false)(disch:=omega) only [go_sem,Φa,hP,h5_3,h5_6,h5_10,h5_12,hops,hopl]
 refine ⟨_,_,rfl,0,_,_,rfl,_,deed_at hop2 hop3,?_⟩
 try refine stI ?_
 try simp (dsimp:=false)(disch:=omega) only [go_sem,Φa,hP,h5_3,h5_6,h5_10,h5_12,hops,hopl]
 refine And.intro (deed_callable hop2 hop3) ?_
 refine SCall.mono (SCall.of_less (Less.drop _ _) (do_spec (g := { g with PC := IntKind.u16.wrap (g.PC + 2) }) (o := (nextG g).1) (f := f) (d := d) hP hg1 ⟨hrc.st,hrc.pg,hrc.mm⟩ hoo hox hoy hd hst3 hon hml3 hpl3 (SlI.cons _ (SlI.cons _ (SlI.cons _ (SlI.cons _ (SlI.cons _ hf))))) (by simp at hc31; omega) hfrb hop2 hop3)) ?_
 rintro v_ L_ ⟨rfl,sv2,pv2,mv2,u1,u2,u3,rfl,hr2⟩
 try refine stI ?_
 try simp (dsimp:=false)(disch:=omega) only [go_sem,Φa,hP,h5_3,h5_6,h5_10,h5_12,hops,hopl]
 refine hK20 _ _ ?_
 try clear hK20 K20
 refine SX.seq_k fun K21 hK21=>?_
 refine SX.region_d [some 65,some 66] rfl (fun ops hops=>?_)
 unfold Dsts at hops
 simp (dsimp:=false)(disch:=omega) only [go_sem,Φa,hP,h5_3,h5_6,h5_10,h5_12,hops]
 repeat' ((first | refine And.intro (by omega) ?_ | fail); try refine stI ?_; try simp (dsimp:=false)(disch:=omega) only [go_sem,Φa,hP,h5_3,h5_6,h5_10,h5_12,hops])
 refine hK21 _ _ ?_
 try clear hK21 K21
 refine SX.live [3,6,11,12,66] (fun T6 hT6=>?_)
 simp only [forall_mem_cons',forall_mem_nil',go_sem,Φa,hP,h5_3,h5_6,h5_10,h5_12] at hT6
 obtain ⟨h6_3,h6_6,h6_11,h6_12,h6_66⟩ := hT6
 clear h5_3 h5_6 h5_10 h5_12 T5
 refine SX.cond_k fun X22 Y22 hX22 hY22=>?_
 simp (dsimp:=false)(disch:=omega) only [go_sem,Φa,hP,h6_3,h6_6,h6_11,h6_12,h6_66,condVC]
 refine ⟨fun hc66=>hX22 ?_,fun hc66=>hY22 ?_⟩
 ·clear hX22 hY22 X22 Y22
  refine SX.seq_k fun K23 hK23=>?_
  refine SX.region_d [some 67,some 68,some 69,none,some 7,some 8] rfl (fun ops hops=>?_)
  unfold Dsts at hops
  simp (dsimp:=false)(disch:=omega) only [go_sem,Φa,hP,h6_3,h6_6,h6_11,h6_12,h6_66,hops]
  iterate 23 refine ⟨_,Cell.at 8 rfl rfl,?_⟩
  try refine stI ?_
  try simp (dsimp:=false)(disch:=omega) only [go_sem,Φa,hP,h6_3,h6_6,h6_11,h6_12,h6_66,hops]
  refine SCall.mono (clone_spec (g := g) (sv := .slice As g.st.length cs) (pv := .slice Ap g.pg.length cp) (mv := .slice Am g.mm.length cm) hP (SlI.cons _ (SlI.cons _ (SlI.cons _ (SlI.cons _ (SlI.cons _ (SlI.cons _ (SlI.cons _ (SlI.cons _ (SlI.cons _ hs))))))))) (SlI.cons _ (SlI.cons _ (SlI.cons _ (SlI.cons _ (SlI.cons _ (SlI.cons _ (SlI.cons _ (SlI.cons _ (SlI.cons _ hp))))))))) (SlI.cons _ (SlI.cons _ (SlI.cons _ (SlI.cons _ (SlI.cons _ (SlI.cons _ (SlI.cons _ (SlI.cons _ (SlI.cons _ hm))))))))) hsl2 hpl2 hml2) ?_
  rintro v_ L_ ⟨sv',pv',mv',t1',t2',t3',rfl,rfl,hrc'⟩
  obtain ⟨Z1,z1,rfl,hz1⟩ := rowShape hrc'.st
  obtain ⟨Z2,z2,rfl,hz2⟩ := rowShape hrc'.pg
  obtain ⟨Z3,z3,rfl,hz3⟩ := rowShape hrc'.mm
  unfold GM.cells
  try refine stI ?_
  try simp (dsimp:=false)(disch:=omega) only [go_sem,Φa,hP,h6_3,h6_6,h6_11,h6_12,h6_66,hops]
  refine ⟨8,_,_,_,rfl,by decide,.inr (by decide),?_⟩
  try refine stI ?_
  try simp (dsimp:=false)(disch:=omega) only [go_sem,Φa,hP,h6_3,h6_6,h6_11,h6_12,h6_66,hops]
  refine hK23 _ _ ?_
  try clear hK23 K23
  refine SX.ret ?_
  simp only [andThen_normal,andThen_ret,andThen_exit,inBlk_normal,inBlk_ret,inBlk_exit,Nat.reduceEqDiff,if_true,if_false,↓reduceIte,retQ_ret]
  try simp only [res0,res1,res2,res3,stK_e,resX,resK,oneOr,ld_ptr,loadVC,loadN,List.nil_append,List.cons_append,Nat.reduceAdd,Nat.add_zero,Nat.zero_add,Addr.add_lit,Addr.add_zero',add_addS,T.elA_27,T.lay_27,T.szA_27,T.zr_27,Tryz.underlying27,go_sem,Φa,hP,h6_3,h6_6,h6_11,h6_12,h6_66]
  refine ⟨_,_,Less.sublist (.cons_cons _ (.cons_cons _ (.cons_cons _ (.cons _ (.cons _ (.cons _ (.cons _ (.cons _ (.cons _ (.cons _ (.cons _ (.cons _ (List.Sublist.refl _))))))))))))),⟨_,Cell.at 8 rfl rfl,_,Cell.at 8 rfl rfl,_,Cell.at 8 rfl rfl,_,Cell.at 8 rfl rfl,_,Cell.at 8 rfl rfl,_,Cell.at 8 rfl rfl,_,Cell.at 8 rfl rfl,_,Cell.at 8 rfl rfl,_,Cell.at 8 rfl rfl,_,Cell.at 8 rfl rfl,_,Cell.at 8 rfl rfl,_,Cell.at 8 rfl rfl,_,Cell.at 8 rfl rfl,_,Cell.at 8 rfl rfl,_,Cell.at 8 rfl rfl,_,Cell.at 8 rfl rfl,_,Cell.at 8 rfl rfl,_,Cell.at 8 rfl rfl,_,Cell.at 8 rfl rfl,_,Cell.at 8 rfl rfl,_,Cell.at 8 rfl rfl,_,Cell.at 8 rfl rfl,_,Cell.at 8 rfl rfl,rfl⟩,?_⟩
  unfold stepG
  rw [if_neg (by omega),if_neg (by simp at hc31; omega),if_neg (by simpa using hc39)]
  dsimp only
  rw [if_pos (by simpa using hc66)]
  exact ⟨_,_,_,t1',t2',t3',rfl,rfl,hrc'⟩
 clear hX22 hY22 X22 Y22
 refine SX.skip ?_
 try simp only [andThen_normal,andThen_ret,andThen_exit,inBlk_normal,inBlk_ret,inBlk_exit,Nat.reduceEqDiff,if_true,if_false,↓reduceIte]
 refine hK19 _ _ ?_
 try clear hK19 K19
 refine SX.seq_k fun K24 hK24=>?_
 obtain ⟨Z1,z1,rfl,hz1⟩ := rowShape hr2.st
 obtain ⟨Z2,z2,rfl,hz2⟩ := rowShape hr2.pg
 obtain ⟨Z3,z3,rfl,hz3⟩ := rowShape hr2.mm
 refine SX.region_d [some 70,some 71,some 72,some 73,none,some 7,some 8] rfl (fun ops hops=>?_)
 unfold Dsts at hops
 simp (dsimp:=false)(disch:=omega) only [go_sem,Φa,hP,h6_3,h6_6,h6_11,h6_12,h6_66,hops]
 iterate 23 refine ⟨_,Cell.at 0 rfl rfl,?_⟩
 try refine stI ?_
 try simp (dsimp:=false)(disch:=omega) only [go_sem,Φa,hP,h6_3,h6_6,h6_11,h6_12,h6_66,hops]
 refine ⟨5,_,_,_,rfl,by decide,.inr (by decide),?_⟩
 try refine stI ?_
 try simp (dsimp:=false)(disch:=omega) only [go_sem,Φa,hP,h6_3,h6_6,h6_11,h6_12,h6_66,hops]
 refine hK24 _ _ ?_
 try clear hK24 K24
 refine SX.ret ?_
 simp only [andThen_normal,andThen_ret,andThen_exit,inBlk_normal,inBlk_ret,inBlk_exit,Nat.reduceEqDiff,if_true,if_false,↓reduceIte,retQ_ret]
 try simp only [res0,res1,res2,res3,stK_e,resX,resK,oneOr,ld_ptr,loadVC,loadN,List.nil_append,List.cons_append,Nat.reduceAdd,Nat.add_zero,Nat.zero_add,Addr.add_lit,Addr.add_zero',add_addS,T.elA_27,T.lay_27,T.szA_27,T.zr_27,Tryz.underlying27,go_sem,Φa,hP,h6_3,h6_6,h6_11,h6_12,h6_66]
 refine ⟨_,_,Less.sublist (.cons _ (.cons_cons _ (.cons_cons _ (.cons_cons _ (.cons _ (.cons _ (.cons _ (.cons _ (.cons _ (List.Sublist.refl _)))))))))),⟨_,Cell.at 5 rfl rfl,_,Cell.at 5 rfl rfl,_,Cell.at 5 rfl rfl,_,Cell.at 5 rfl rfl,_,Cell.at 5 rfl rfl,_,Cell.at 5 rfl rfl,_,Cell.at 5 rfl rfl,_,Cell.at 5 rfl rfl,_,Cell.at 5 rfl rfl,_,Cell.at 5 rfl rfl,_,Cell.at 5 rfl rfl,_,Cell.at 5 rfl rfl,_,Cell.at 5 rfl rfl,_,Cell.at 5 rfl rfl,_,Cell.at 5 rfl rfl,_,Cell.at 5 rfl rfl,_,Cell.at 5 rfl rfl,_,Cell.at 5 rfl rfl,_,Cell.at 5 rfl rfl,_,Cell.at 5 rfl rfl,_,Cell.at 5 rfl rfl,_,Cell.at 5 rfl rfl,_,Cell.at 5 rfl rfl,rfl⟩,?_⟩
 unfold stepG
 rw [if_neg (by omega),if_neg (by simp at hc31; omega),if_neg (by simpa using hc39)]
 dsimp only
 rw [if_neg (by simpa using hc66)]
 exact ⟨_,_,_,u1,u2,u3,rfl,rfl,hr2⟩


end Go.Proofs.YtgioegdjeodpiaaGreat
universe u
namespace Go.SX
open Go.RowKit
inductive Tr where
 | nil | z
 | q (k : Nat) (r : Tr) | c (k : Nat) (r : Tr) | e (k : Nat) (r s : Tr) | t (k : Nat) (r : Tr)
def Tr.alts : Tr → List Nat
 | .e k _ s=>k :: s.alts
 | _=>[]
def okTr (ops : Array Oper) (tl : List Nat) : Bool → Bool → Tr → Array Bool → Bool
 | hd,_,.nil,listed=>hd && (Region.ready .any ops listed).isEmpty
 | hd,_,.z,_=>!hd
 | hd,td,.q k r,listed=>hd && !td && (Region.ready .any ops listed).contains k && Region.free .any ops listed k && notCall ops k && tl.all (fun t=>reach ops ops.size t k) && okTr ops tl true td r (listed.setIfInBounds k true)
 | hd,td,.c k r,listed=>hd && !td && (Region.ready .any ops listed).contains k && Region.free .any ops listed k && tl.all (fun t=>reach ops ops.size t k) && okTr ops tl true td r (listed.setIfInBounds k true)
 | hd,td,.e k r s,listed=>(!hd || (Region.ready .any ops listed).all (fun i=>(Tr.e k r s).alts.contains i)) && !td && !tl.contains k && (Region.ready .any ops listed).contains k && okTr ops tl true td r (listed.setIfInBounds k true) && okTr ops tl false td s listed
 | hd,_,.t k r,listed=>hd && decide (Region.ready .any ops listed = [k]) && tl.contains k && okTr ops tl true true r (listed.setIfInBounds k true)
def Tr.size : Tr → Nat
 | .nil=>0 | .z=>0 | .q _ r=>r.size + 1 | .c _ r=>r.size + 1 | .e _ r _=>r.size + 1 | .t _ r=>r.size + 1
def Tr.even (n : Nat) : Tr → Bool
 | .nil=>n == 0 | .z=>true | .q _ r=>n != 0 && r.even (n - 1) | .c _ r=>n != 0 && r.even (n - 1) | .e _ r s=>n != 0 && r.even (n - 1) && s.even n | .t _ r=>n != 0 && r.even (n - 1)
def Tr.tails : Tr → List Nat
 | .nil=>[] | .z=>[] | .q _ r=>r.tails | .c _ r=>r.tails | .e _ r _=>r.tails | .t k r=>k :: r.tails
def treeB (ops : Array Oper) (pl : Tr) : Bool := Region.noSelect ops && pl.even ops.size && okTr ops pl.tails true false pl (Array.replicate ops.size false)
def VCtree (Γ : Ctx) (n : Nat) (ops : Array Oper) : Tr → (Env → Hp → Prop) → Env → Hp → Prop
 | .nil,K,T,L=>K T L
 | .z,_,_,_=>True
 | .q k r,K,T,L=>oM (ops.toList[k]?) (fun o=>guardVC ops o.guard T (fun T=>VQ Γ o T L (fun v=>putVC n o.dst v T (fun T=>VCtree Γ n ops r K T L))) (fun T=>putVC n o.dst undef T (fun T=>VCtree Γ n ops r K T L))) False
 | .c k r,K,T,L=>oM (ops.toList[k]?) (fun o=>guardVC ops o.guard T (fun T=>∃ v,(∀ L0,Less L0 L → VC Γ o T L0 (fun u L1=>u = v ∧ L1 = L0)) ∧ putVC n o.dst v T (fun T=>VCtree Γ n ops r K T L)) (fun T=>putVC n o.dst undef T (fun T=>VCtree Γ n ops r K T L))) False
 | .e k r s,K,T,L=>oM (ops.toList[k]?) (fun o=>guardVC ops o.guard T (fun T=>VC Γ o T L (fun v L'=>putVC n o.dst v T (fun T=>Less L' L ∧ VCtree Γ n ops r K T L'))) (fun T=>putVC n o.dst undef T (fun T=>VCtree Γ n ops r K T L))) False ∧ VCtree Γ n ops s K T L
 | .t k r,K,T,L=>oM (ops.toList[k]?) (fun o=>guardVC ops o.guard T (fun T=>VC Γ o T L (fun v L'=>putVC n o.dst v T (fun T=>VCtree Γ n ops r K T L'))) (fun T=>putVC n o.dst undef T (fun T=>VCtree Γ n ops r K T L))) False
section
variable {ds : List Deferred} {Γ : Ctx} {n : Nat} {T : Env} {L : Hp} {Q : Exit → Env → Hp → Prop}

theorem tree_sound {ops : Array Oper} {tl : List Nat} {K : Env → Hp → Prop} (hs : Region.noSelect ops = true) : ∀ (pl : Tr) (m : Nat) (td : Bool) (listed : Array Bool) (M : Hp) (T : Env) (L : Hp) (a : Act),
  pl.even m = true → Closed ops listed → VCtree Γ n ops pl K T L → Fits ds n T a → (td = false → M = L) →
  (okTr ops tl true td pl listed = true → AnyL Γ ops (onlyNormal fun a w=>∃ T L,Fits ds n T a ∧ Inv Γ L w ∧ K T L) tl m listed M L a) ∧
  (okTr ops tl false td pl listed = true → ∀ i ∈ pl.alts,i ∈ Region.ready .any ops listed → ∀ w,Inv Γ L w → 0 < m ∧ wpOp Γ.P ops (onlyNormal fun a w=>∃ T L,Fits ds n T a ∧ Inv Γ L w ∧ K T L) i (fun a' w'=>∃ M' L' : Hp,Inv Γ L' w' ∧ Less L' M' ∧ (i ∉ tl → Less M' M) ∧ AnyL Γ ops (onlyNormal fun a w=>∃ T L,Fits ds n T a ∧ Inv Γ L w ∧ K T L) tl (m - 1) (listed.setIfInBounds i true) M' L' a') a w) := by
 intro pl
 induction pl with
 | nil =>
  intro m td listed M T L a he hcl h hf hC
  have hm : m = 0 := by simpa [Tr.even] using he
  subst hm
  exact ⟨fun hB=>⟨by simpa [okTr] using hB,fun w hi=>⟨T,L,hf,hi,h⟩⟩,fun hB=>by simp [okTr] at hB⟩
 | z=>exact fun m td listed M T L a he hcl h hf hC=>⟨fun hB=>by simp [okTr] at hB,fun hB i hi=>by simp [Tr.alts] at hi⟩
 | q k r ih =>
  intro m td listed M T L a he hcl h hf hC
  refine ⟨fun hB=>?_,fun hB=>by simp [okTr] at hB⟩
  simp only [Tr.even,Bool.and_eq_true,bne_iff_ne,ne_eq] at he
  obtain ⟨hm,he⟩ := he
  obtain ⟨m,rfl⟩ : ∃ m',m = m' + 1 := ⟨m - 1,by omega⟩
  simp only [VCtree] at h
  rw [Array.getElem?_toList] at h
  cases ho : ops[k]? with
  | none=>rw [ho] at h; exact h.elim
  | some o =>
   rw [ho,oM_some] at h
   simp only [okTr,Bool.and_eq_true,Bool.not_eq_true',true_and] at hB
   obtain ⟨⟨⟨⟨⟨htd,hr⟩,hfr⟩,hnc⟩,htl⟩,hB⟩ := hB
   obtain rfl := hC htd
   have hr' : k ∈ Region.ready .any ops listed := by simpa using hr
   have hnc' : isCallV o = false := by simpa [notCall,ho] using hnc
   have key : ∃ v T',YV Γ.P ops (Inv Γ M) o v a ∧ Fits ds n T' (a.put o.dst v) ∧ VCtree Γ n ops r K T' M := by
    rcases guardVC_sound hf h with ⟨hwa,h⟩ | ⟨hwa,h⟩
    ·obtain ⟨v,hk,hrun | ⟨hc,_⟩⟩ := VQ_sound h
     ·obtain ⟨T',hf',hk'⟩ := putVC_sound hf hk
      exact ⟨v,T',.inl ⟨hwa,by rw [hf.eval]; exact hrun⟩,hf',hk'⟩
     rw [hnc'] at hc; cases hc
    obtain ⟨T',hf',hk'⟩ := putVC_sound hf h
    exact ⟨undef,T',.inr ⟨hwa,rfl⟩,hf',hk'⟩
   obtain ⟨v,T',hy,hf',hk'⟩ := key
   exact AnyL_first ho (Region.noSelect_spec hs) (fun _ _ _ h=>h) ops.size (fun t ht=>List.all_eq_true.1 htl t ht) m listed _ _ a hcl (Region.free_spec ho hfr) hr' (.of_quiet ho hy) (Less.refl _)
    ((ih m td _ _ T' M _ he (hcl.set hr') hk' hf' fun _=>rfl).1 hB)
 | c k r ih =>
  intro m td listed M T L a he hcl h hf hC
  refine ⟨fun hB=>?_,fun hB=>by simp [okTr] at hB⟩
  simp only [Tr.even,Bool.and_eq_true,bne_iff_ne,ne_eq] at he
  obtain ⟨hm,he⟩ := he
  obtain ⟨m,rfl⟩ : ∃ m',m = m' + 1 := ⟨m - 1,by omega⟩
  simp only [VCtree] at h
  rw [Array.getElem?_toList] at h
  cases ho : ops[k]? with
  | none=>rw [ho] at h; exact h.elim
  | some o =>
   rw [ho,oM_some] at h
   simp only [okTr,Bool.and_eq_true,Bool.not_eq_true',true_and] at hB
   obtain ⟨⟨⟨⟨htd,hr⟩,hfr⟩,htl⟩,hB⟩ := hB
   obtain rfl := hC htd
   have hr' : k ∈ Region.ready .any ops listed := by simpa using hr
   have key : ∃ v T',StepV Γ ops (onlyNormal fun a w=>∃ T L,Fits ds n T a ∧ Inv Γ L w ∧ K T L) k o v M a ∧ Fits ds n T' (a.put o.dst v) ∧ VCtree Γ n ops r K T' M := by
    rcases guardVC_sound hf h with ⟨hwa,v,h,hk⟩ | ⟨hwa,h⟩
    ·obtain ⟨T',hf',hk'⟩ := putVC_sound hf hk
     refine ⟨v,T',fun a' hs L0 w hl0 hi K hK=>?_,hf',hk'⟩
     unfold wpOp
     simp only [ho]
     have hy := VC_sound (h L0 hl0) w hi
     rw [← hf.eval,← hs.1] at hy
     rw [hs.2,hwa,if_pos rfl]
     refine .inl ?_
     unfold Oper.wp
     revert hy
     generalize (execOp a'.eval o).run Γ.P w = r
     intro hy
     cases r with
     | halt x w'=>exact hy.elim
     | ok nx w' =>
      cases nx <;> first | exact hy.elim | skip
      case value u =>
       obtain ⟨L',hi',rfl,rfl⟩ := hy
       exact hK _ hi'
      case skip =>
       obtain ⟨L',hi',hv,rfl⟩ := hy
       have := hK _ hi'
       rw [← hv] at this
       exact this
      case enter f args =>
       simp only [Oper.upon]
       refine Calls.mono hy ?_
       rintro e w'' ⟨u,L',rfl,hi',rfl,rfl⟩
       exact hK _ hi'
    obtain ⟨T',hf',hk'⟩ := putVC_sound hf h
    refine ⟨undef,T',fun a' hs L0 w hl0 hi K hK=>?_,hf',hk'⟩
    unfold wpOp
    simp only [ho,hs.2,hwa,Bool.false_eq_true,if_false]
    exact hK w hi
   obtain ⟨v,T',hy,hf',hk'⟩ := key
   exact AnyL_first ho (Region.noSelect_spec hs) (fun _ _ _ h=>h) ops.size (fun t ht=>List.all_eq_true.1 htl t ht) m listed _ _ a hcl (Region.free_spec ho hfr) hr' hy (Less.refl _)
    ((ih m td _ _ T' M _ he (hcl.set hr') hk' hf' fun _=>rfl).1 hB)
 | e k r s ihr ihs =>
  intro m td listed M T L a he hcl h hf hC
  simp only [Tr.even,Bool.and_eq_true,bne_iff_ne,ne_eq] at he
  obtain ⟨⟨hm,he⟩,hes⟩ := he
  obtain ⟨m,rfl⟩ : ∃ m',m = m' + 1 := ⟨m - 1,by omega⟩
  simp only [VCtree] at h
  obtain ⟨h,hsx⟩ := h
  rw [Array.getElem?_toList] at h
  have core : ∀ hd,okTr ops tl hd td (.e k r s) listed = true → ∀ i ∈ (Tr.e k r s).alts,i ∈ Region.ready .any ops listed → ∀ w,Inv Γ L w → wpOp Γ.P ops (onlyNormal fun a w=>∃ T L,Fits ds n T a ∧ Inv Γ L w ∧ K T L) i (fun a' w'=>∃ M' L' : Hp,Inv Γ L' w' ∧ Less L' M' ∧ (i ∉ tl → Less M' M) ∧ AnyL Γ ops (onlyNormal fun a w=>∃ T L,Fits ds n T a ∧ Inv Γ L w ∧ K T L) tl m (listed.setIfInBounds i true) M' L' a') a w := by
   intro hd hB i hi hir w hw
   simp only [okTr,Bool.and_eq_true,Bool.not_eq_true'] at hB
   obtain ⟨⟨⟨⟨⟨_,htd⟩,hnt⟩,hr⟩,hB⟩,hBs⟩ := hB
   obtain rfl := hC htd
   have hr' : k ∈ Region.ready .any ops listed := by simpa using hr
   rcases List.mem_cons.1 (show i ∈ k :: s.alts from hi) with rfl | hi
   ·cases ho : ops[i]? with
    | none=>rw [ho] at h; exact h.elim
    | some o =>
     rw [ho,oM_some] at h
     refine wpOp_mono ?_ (eff_wpOp ho hf hw (R := fun T L'=>Less L' M ∧ VCtree Γ n ops r K T L') (N := fun T L=>VCtree Γ n ops r K T L) h)
     rintro a' w' ⟨T',L',hf',hi'',⟨h2,h3⟩ | ⟨rfl,h3⟩⟩
     ·exact ⟨L',L',hi'',Less.refl _,fun _=>h2,(ihr m td _ _ T' L' a' he (hcl.set hr') h3 hf' fun _=>rfl).1 hB⟩
     exact ⟨L',L',hi'',Less.refl _,fun _=>Less.refl _,(ihr m td _ _ T' L' a' he (hcl.set hr') h3 hf' fun _=>rfl).1 hB⟩
   have := ((ihs (m + 1) td listed _ T M a hes hcl hsx hf fun _=>rfl).2 hBs i hi hir w hw).2
   rwa [Nat.add_sub_cancel] at this
  refine ⟨fun hB=>⟨fun h0=>?_,fun i hi w hw=>core true hB i ?_ hi w hw⟩,fun hB i hi hir w hw=>⟨by omega,core false hB i hi hir w hw⟩⟩
  ·simp only [okTr,Bool.and_eq_true] at hB
   have hr := hB.1.1.2
   rw [h0] at hr
   simp at hr
  ·simp only [okTr,Bool.and_eq_true,Bool.not_true,Bool.false_or] at hB
   have := List.all_eq_true.1 hB.1.1.1.1.1 i hi
   simpa using this
 | t k r ih =>
  intro m td listed M T L a he hcl h hf hC
  refine ⟨fun hB=>?_,fun hB=>by simp [okTr] at hB⟩
  simp only [Tr.even,Bool.and_eq_true,bne_iff_ne,ne_eq] at he
  obtain ⟨hm,he⟩ := he
  obtain ⟨m,rfl⟩ : ∃ m',m = m' + 1 := ⟨m - 1,by omega⟩
  simp only [VCtree] at h
  rw [Array.getElem?_toList] at h
  cases ho : ops[k]? with
  | none=>rw [ho] at h; exact h.elim
  | some o =>
   rw [ho,oM_some] at h
   simp only [okTr,Bool.and_eq_true,decide_eq_true_eq,true_and] at hB
   obtain ⟨⟨hr,hnt⟩,hB⟩ := hB
   have hr' : k ∈ Region.ready .any ops listed := by rw [hr]; simp
   refine ⟨fun h0=>(by rw [h0] at hr; cases hr),fun i hi' w hi=>?_⟩
   rw [hr] at hi'
   have hik : i = k := by simpa using hi'
   subst hik
   have hmem : i ∈ tl := by simpa using hnt
   refine wpOp_mono ?_ (eff_wpOp ho hf hi (R := fun T L'=>VCtree Γ n ops r K T L') (N := fun T L=>VCtree Γ n ops r K T L) h)
   rintro a' w' ⟨T',L',hf',hi'',h3 | ⟨rfl,h3⟩⟩
   ·exact ⟨[],L',hi'',Less.nil _,fun hn=>absurd hmem hn,(ih m true _ _ T' L' a' he (hcl.set hr') h3 hf' fun h=>by cases h).1 hB⟩
   exact ⟨[],L',hi'',Less.nil _,fun hn=>absurd hmem hn,(ih m true _ _ T' L' a' he (hcl.set hr') h3 hf' fun h=>by cases h).1 hB⟩

theorem SX.tree {id : Nat} {l : List Oper} (pl : Tr) (hm : Γ.P.follows .mixedOrders = true) (hB : treeB l.toArray pl = true)
  (h : VCtree Γ n l.toArray pl (Q .normal) T L) : SX Γ n (.region id l.toArray true) Q T L := fun ds a w hf hi=>by
 simp only [treeB,Bool.and_eq_true] at hB
 obtain ⟨⟨hs,hev⟩,hB⟩ := hB
 have H := (tree_sound (K := Q .normal) (tl := pl.tails) hs pl _ false _ L T L a hev (Closed.zero _) h hf fun _=>rfl).1 hB
 have H2 := wp_region_any (id := id) hm (H.any _ _ _ _ _ _ hi.drewR)
 refine Code.wp_mono (fun e a w he=>?_) H2
 cases e <;> first | exact he | exact (he : False).elim
theorem SX.tree_d {id : Nat} {l : List Oper} (pl : Tr) (hm : Γ.P.follows .mixedOrders = true) (hB : treeB l.toArray pl = true) (ds : List (Option Tmp)) (hd : l.map (fun o : Oper=>o.dst) = ds)
  (h : ∀ ops : Array Oper,Dsts ops ds → (∀ k : Nat,ops.toList[k]? = l[k]?) → VCtree Γ n ops pl (Q .normal) T L) : SX Γ n (.region id l.toArray true) Q T L := SX.tree pl hm hB (h _ (dsts_of hd) fun _=>rfl)
end
def VCtreeH (Γ : Ctx) (n : Nat) (ops : Array Oper) (pl : Tr) (K : (Env → Hp → Prop)) (T : Env) (L : Hp) (_ : Dk ops) (_ : Dk K) (_ : Dk T) (_ : Dk L) : Prop := VCtree Γ n ops pl K T L
section
variable {ds : List Deferred} {Γ : Ctx} {n : Nat} {ops : Array Oper} {T : Env} {L : Hp} {Q : Env → Hp → Prop} {k : Nat} {r s : Tr}
theorem tree_H {pl : Tr} : VCtree Γ n ops pl Q T L = VCtreeH Γ n ops pl Q T L () () () () := rfl
theorem tree_nilH : VCtreeH Γ n ops .nil Q T L () () () () = Q T L := rfl
theorem tree_zH : VCtreeH Γ n ops .z Q T L () () () () = True := rfl
theorem tree_qH : VCtreeH Γ n ops (.q k r) Q T L () () () () = oMH (ops.toList[k]?) (fun o=>guardVCH ops o.guard T (fun T=>VQH Γ o T L (fun v=>putVCH n o.dst v T (fun T=>VCtreeH Γ n ops r Q T L () () () ()) () ()) () () () ()) (fun T=>putVCH n o.dst undef T (fun T=>VCtreeH Γ n ops r Q T L () () () ()) () ()) () () () ()) False () () := rfl
theorem tree_cH : VCtreeH Γ n ops (.c k r) Q T L () () () () = oMH (ops.toList[k]?) (fun o=>guardVCH ops o.guard T (fun T=>∃ v,(∀ L0,Less L0 L → VCH Γ o T L0 (fun u L1=>u = v ∧ L1 = L0) () () () ()) ∧ putVCH n o.dst v T (fun T=>VCtreeH Γ n ops r Q T L () () () ()) () ()) (fun T=>putVCH n o.dst undef T (fun T=>VCtreeH Γ n ops r Q T L () () () ()) () ()) () () () ()) False () () := rfl
theorem tree_eH : VCtreeH Γ n ops (.e k r s) Q T L () () () () = (stK (oMH (ops.toList[k]?) (fun o=>guardVCH ops o.guard T (fun T=>VCH Γ o T L (fun v L'=>putVCH n o.dst v T (fun T=>Less L' L ∧ VCtreeH Γ n ops r Q T L' () () () ()) () ()) () () () ()) (fun T=>putVCH n o.dst undef T (fun T=>VCtreeH Γ n ops r Q T L () () () ()) () ()) () () () ()) False () ()) () ∧ stK (VCtreeH Γ n ops s Q T L () () () ()) ()) := by
 rw [stK_e,stK_e]; rfl
theorem tree_e1H : VCtreeH Γ n ops (.e k r .z) Q T L () () () () = oMH (ops.toList[k]?) (fun o=>guardVCH ops o.guard T (fun T=>VCH Γ o T L (fun v L'=>putVCH n o.dst v T (fun T=>Less L' L ∧ VCtreeH Γ n ops r Q T L' () () () ()) () ()) () () () ()) (fun T=>putVCH n o.dst undef T (fun T=>VCtreeH Γ n ops r Q T L () () () ()) () ()) () () () ()) False () () := by
 show (_ ∧ True) = _
 rw [and_true]; rfl
theorem tree_tH : VCtreeH Γ n ops (.t k r) Q T L () () () () = oMH (ops.toList[k]?) (fun o=>guardVCH ops o.guard T (fun T=>VCH Γ o T L (fun v L'=>putVCH n o.dst v T (fun T=>VCtreeH Γ n ops r Q T L' () () () ()) () ()) () () () ()) (fun T=>putVCH n o.dst undef T (fun T=>VCtreeH Γ n ops r Q T L () () () ()) () ()) () () () ()) False () () := rfl
end
end Go.SX
namespace Go.SX
attribute [go_sem] tree_H tree_nilH tree_zH tree_qH tree_cH tree_tH tree_e1H
attribute [go_sem low] tree_eH
theorem Less.swap0 (a b : Slot) (L : Hp) : Less (a :: b :: L) (b :: a :: L) := Less.perm (List.Perm.swap _ _ _)
theorem Less.swap1 (x a b : Slot) (L : Hp) : Less (x :: a :: b :: L) (x :: b :: a :: L) := Less.perm (.cons _ (List.Perm.swap _ _ _))
end Go.SX
namespace Go.Proofs.YtgioegdjeodpiaaGreat
open Go.RowKit Go.SX
open Go.SX renaming ia_someH → Φa

def newG (p : List Int) : GM × Int := if 3232 < p.length then (zeroG,2) else (⟨List.replicate 16 0,0,512,[],0,0,List.replicate 256 0,p ++ List.replicate (3232 - p.length) 0⟩,0)
def newR (r : GM × Int) (L : Hp) (v : Value) (L' : Hp) : Prop := ∃ sv pv mv s1 s2 s3,v = .tuple #[.agg (r.1.cells sv pv mv).toArray,.int .i64 r.2] ∧ L' = s1 :: s2 :: s3 :: L ∧ Rows r.1 sv pv mv s1 s2 s3
theorem zerosI (k : IntKind) (n : Nat) : zerosV [.int k 0] n = ints k (List.replicate n 0) := by simp [zerosV,ints]
theorem copied {k : IntKind} {p : List Int} {n : Nat} (h : p.length ≤ n) : ints k (p.take n) ++ (zerosV [.int k 0] n).drop (min p.length n) = ints k (p ++ List.replicate (n - p.length) 0) := by
 rw [zerosI,List.take_of_length_le h,Nat.min_eq_left h,ints_app]
 congr 1
 simp [ints]
theorem rowFull {k : IntKind} {e b n : Nat} {l : List Int} (h : l.length = n) (hb : n ≤ 9223372036854775807 := by omega) : RowI k e (.slice (some ⟨b,0,none⟩) n n) l (some (b,.cells (ints k l).toArray e (0,0))) := by
 subst h
 exact ⟨by rw [ints_length,Nat.mul_one],.inr ⟨b,l.length,[],rfl,by rw [List.append_nil],⟨Nat.le_refl _,hb⟩,by simp [ints_length]⟩⟩
set_option maxHeartbeats 1000000 in
set_option maxRecDepth 100000 in
theorem New_spec {Γ : Ctx} (hP : Γ.P = Tryz.prog) {L : Hp} {v : Value} {p : List Int} (hp : SlI .u8 (Cell Γ L) v p) (hpl : p.length ≤ 9223372036854775807) :
  SCall Γ 15 #[v] L (newR (newG p) L) := by
 obtain ⟨A,c,rfl,hc,hA⟩ := id hp
 refine SCall.enter (n := 17) (resX Γ [.cell 2 27,.tmp 3]) (hP ▸ Tryz.func15) rfl rfl (by simp) (resX_ok rfl) ?_
 refine SX.seq_k fun K1 hK1=>?_
 refine SX.region_d [some 2,some 3] rfl (fun ops hops=>?_)
 unfold Dsts at hops
 simp (dsimp:=false)(disch:=omega) only [go_sem,Φa,hP,hops]
 intro g0
 try refine stI ?_
 try simp (dsimp:=false)(disch:=omega) only [go_sem,Φa,hP,hops]
 refine hK1 _ _ ?_
 try clear hK1 K1
 refine SX.seq_k fun K2 hK2=>?_
 refine SX.seq_k fun K3 hK3=>?_
 refine SX.region_d [some 5,some 6,some 7] rfl (fun ops hops=>?_)
 unfold Dsts at hops
 simp (dsimp:=false)(disch:=omega) only [go_sem,Φa,hP,hops]
 repeat' ((first | refine And.intro (by omega) ?_ | fail); try refine stI ?_; try simp (dsimp:=false)(disch:=omega) only [go_sem,Φa,hP,hops])
 refine hK3 _ _ ?_
 try clear hK3 K3
 refine SX.cond_k fun X4 Y4 hX4 hY4=>?_
 simp (dsimp:=false)(disch:=omega) only [go_sem,Φa,hP,condVC]
 refine ⟨fun hc7=>hX4 ?_,fun hc7=>hY4 ?_⟩
 ·clear hX4 hY4 X4 Y4
  refine SX.seq_k fun K5 hK5=>?_
  refine SX.region_d [some 8,none,some 3] rfl (fun ops hops=>?_)
  unfold Dsts at hops
  simp (dsimp:=false)(disch:=omega) only [go_sem,Φa,hP,hops]
  refine ⟨0,_,_,_,rfl,by decide,.inr (by decide),?_⟩
  try refine stI ?_
  try simp (dsimp:=false)(disch:=omega) only [go_sem,Φa,hP,hops]
  refine hK5 _ _ ?_
  try clear hK5 K5
  refine SX.ret ?_
  simp only [andThen_normal,andThen_ret,andThen_exit,inBlk_normal,inBlk_ret,inBlk_exit,Nat.reduceEqDiff,if_true,if_false,↓reduceIte,retQ_ret]
  try simp only [res0,res1,res2,res3,stK_e,resX,resK,oneOr,ld_ptr,loadVC,loadN,List.nil_append,List.cons_append,Nat.reduceAdd,Nat.add_zero,Nat.zero_add,Addr.add_lit,Addr.add_zero',add_addS,T.elA_27,T.lay_27,T.szA_27,T.zr_27,Tryz.underlying27,go_sem,Φa,hP]
  refine ⟨_,_,(Less.drop _ _).trans ((Less.none _).trans ((Less.none _).trans (Less.none _))),⟨_,Cell.at 0 rfl rfl,_,Cell.at 0 rfl rfl,_,Cell.at 0 rfl rfl,_,Cell.at 0 rfl rfl,_,Cell.at 0 rfl rfl,_,Cell.at 0 rfl rfl,_,Cell.at 0 rfl rfl,_,Cell.at 0 rfl rfl,_,Cell.at 0 rfl rfl,_,Cell.at 0 rfl rfl,_,Cell.at 0 rfl rfl,_,Cell.at 0 rfl rfl,_,Cell.at 0 rfl rfl,_,Cell.at 0 rfl rfl,_,Cell.at 0 rfl rfl,_,Cell.at 0 rfl rfl,_,Cell.at 0 rfl rfl,_,Cell.at 0 rfl rfl,_,Cell.at 0 rfl rfl,_,Cell.at 0 rfl rfl,_,Cell.at 0 rfl rfl,_,Cell.at 0 rfl rfl,_,Cell.at 0 rfl rfl,rfl⟩,?_⟩
  unfold newG
  rw [if_pos (by omega)]
  exact ⟨_,_,_,_,_,_,rfl,rfl,⟨RowI.nil _ _,RowI.nil _ _,RowI.nil _ _⟩⟩
 clear hX4 hY4 X4 Y4
 refine SX.skip ?_
 try simp only [andThen_normal,andThen_ret,andThen_exit,inBlk_normal,inBlk_ret,inBlk_exit,Nat.reduceEqDiff,if_true,if_false,↓reduceIte]
 refine hK2 _ _ ?_
 try clear hK2 K2
 refine SX.live [0,2] (fun T1 hT1=>?_)
 simp only [forall_mem_cons',forall_mem_nil',go_sem,Φa,hP] at hT1
 obtain ⟨h1_0,h1_2⟩ := hT1
 refine SX.join (fun (ss : (Nat) × (Nat) × (Nat)) T L'=>(fun (b0 : Nat) (b1 : Nat) (b3 : Nat)=>T 4 = .pointer (some ⟨b3,0,none⟩) ∧ T 0 = T1 0 ∧ T 2 = T1 2 ∧ L' = some (b3,.cells #[.int .u8 0,.int .u8 0,.int .u8 0,.int .u8 0,.int .u8 0,.int .u8 0,.int .u8 0,.int .u8 0,.int .u8 0,.int .u8 0,.int .u8 0,.int .u8 0,.int .u8 0,.int .u8 0,.int .u8 0,.int .u8 0,.int .u16 0,.int .u16 512,.slice none 0 0,.int .u8 0,.int .u8 0,.slice (some ⟨b0,0,none⟩) 256 256,.slice (some ⟨b1,0,none⟩) 3232 3232] 27 (0,0)) :: some (b1,.cells (zerosV [.int .u8 0] 3232).toArray 5 (0,0)) :: some (b0,.cells (zerosV [.int .u8 0] 256).toArray 5 (0,0)) :: some (g0,.cells #[.int .u8 0,.int .u8 0,.int .u8 0,.int .u8 0,.int .u8 0,.int .u8 0,.int .u8 0,.int .u8 0,.int .u8 0,.int .u8 0,.int .u8 0,.int .u8 0,.int .u8 0,.int .u8 0,.int .u8 0,.int .u8 0,.int .u16 0,.int .u16 0,.slice none 0 0,.int .u8 0,.int .u8 0,.slice none 0 0,.slice none 0 0] 27 (0,0)) :: L ∧ (True)) (ss.1) (ss.2.1) (ss.2.2)) (fun K6 hK6=>?_) ?_
 ·simp only [h1_0,h1_2] at hK6
  refine SX.tree_d (.e 0 (.e 1 (.q 2 (.e 3 (.t 4 (.nil)) (.z))) (.e 3 (.e 1 (.q 2 (.t 4 (.nil))) (.z)) (.z))) (.e 1 (.e 0 (.q 2 (.e 3 (.t 4 (.nil)) (.z))) (.e 3 (.e 0 (.q 2 (.t 4 (.nil))) (.z)) (.z))) (.e 3 (.e 0 (.e 1 (.q 2 (.t 4 (.nil))) (.z)) (.e 1 (.e 0 (.q 2 (.t 4 (.nil))) (.z)) (.z))) (.z)))) (hP ▸ T.mixed) (by kernel_rfl) [some 9,some 10,some 11,some 4,none] rfl (fun ops hops hopl=>?_)
  unfold Dsts at hops
  simp (dsimp:=false)(disch:=omega) only [go_sem,Φa,hP,h1_0,h1_2,hops,hopl]
  refine And.intro ?_ ?_
  ·try refine stI ?_
   try simp (dsimp:=false)(disch:=omega) only [go_sem,Φa,hP,h1_0,h1_2,hops,hopl]
   intro b0
   try refine stI ?_
   try simp (dsimp:=false)(disch:=omega) only [go_sem,Φa,hP,h1_0,h1_2,hops,hopl]
   try with_reducible refine And.intro (Less.drop _ _) ?_
   try refine stI ?_
   try simp (dsimp:=false)(disch:=omega) only [go_sem,Φa,hP,h1_0,h1_2,hops,hopl]
   refine And.intro ?_ ?_
   ·try refine stI ?_
    try simp (dsimp:=false)(disch:=omega) only [go_sem,Φa,hP,h1_0,h1_2,hops,hopl]
    intro b1
    try refine stI ?_
    try simp (dsimp:=false)(disch:=omega) only [go_sem,Φa,hP,h1_0,h1_2,hops,hopl]
    try with_reducible refine And.intro (Less.drop _ _) ?_
    try refine stI ?_
    try simp (dsimp:=false)(disch:=omega) only [go_sem,Φa,hP,h1_0,h1_2,hops,hopl]
    intro b3
    try refine stI ?_
    try simp (dsimp:=false)(disch:=omega) only [go_sem,Φa,hP,h1_0,h1_2,hops,hopl]
    try with_reducible refine And.intro (Less.drop _ _) ?_
    try refine stI ?_
    try simp (dsimp:=false)(disch:=omega) only [go_sem,Φa,hP,h1_0,h1_2,hops,hopl]
    refine ⟨0,_,_,_,rfl,by decide,.inr (by decide),?_⟩
    try refine stI ?_
    try simp (dsimp:=false)(disch:=omega) only [go_sem,Φa,hP,h1_0,h1_2,hops,hopl]
    refine hK6 (b0,b1,b3) _ (some (b3,.cells #[.int .u8 0,.int .u8 0,.int .u8 0,.int .u8 0,.int .u8 0,.int .u8 0,.int .u8 0,.int .u8 0,.int .u8 0,.int .u8 0,.int .u8 0,.int .u8 0,.int .u8 0,.int .u8 0,.int .u8 0,.int .u8 0,.int .u16 0,.int .u16 512,.slice none 0 0,.int .u8 0,.int .u8 0,.slice (some ⟨b0,0,none⟩) 256 256,.slice (some ⟨b1,0,none⟩) 3232 3232] 27 (0,0)) :: some (b1,.cells (zerosV [.int .u8 0] 3232).toArray 5 (0,0)) :: some (b0,.cells (zerosV [.int .u8 0] 256).toArray 5 (0,0)) :: some (g0,.cells #[.int .u8 0,.int .u8 0,.int .u8 0,.int .u8 0,.int .u8 0,.int .u8 0,.int .u8 0,.int .u8 0,.int .u8 0,.int .u8 0,.int .u8 0,.int .u8 0,.int .u8 0,.int .u8 0,.int .u8 0,.int .u8 0,.int .u16 0,.int .u16 0,.slice none 0 0,.int .u8 0,.int .u8 0,.slice none 0 0,.slice none 0 0] 27 (0,0)) :: L) _ (by exact Less.refl _) ?_
    try dsimp only
    refine ⟨?_,?_,?_,?_,?_⟩
    ·simp (dsimp:=false)(disch:=omega) only [go_sem,Φa,hP,h1_0,h1_2]
     first | done | rfl | skip
    ·simp (dsimp:=false)(disch:=omega) only [go_sem,Φa,hP,h1_0,h1_2]
    ·simp (dsimp:=false)(disch:=omega) only [go_sem,Φa,hP,h1_0,h1_2]
    ·rfl
    trivial
   try refine stI ?_
   try simp (dsimp:=false)(disch:=omega) only [go_sem,Φa,hP,h1_0,h1_2,hops,hopl]
   intro b3
   try refine stI ?_
   try simp (dsimp:=false)(disch:=omega) only [go_sem,Φa,hP,h1_0,h1_2,hops,hopl]
   try with_reducible refine And.intro (Less.drop _ _) ?_
   try refine stI ?_
   try simp (dsimp:=false)(disch:=omega) only [go_sem,Φa,hP,h1_0,h1_2,hops,hopl]
   intro b1
   try refine stI ?_
   try simp (dsimp:=false)(disch:=omega) only [go_sem,Φa,hP,h1_0,h1_2,hops,hopl]
   try with_reducible refine And.intro (Less.drop _ _) ?_
   try refine stI ?_
   try simp (dsimp:=false)(disch:=omega) only [go_sem,Φa,hP,h1_0,h1_2,hops,hopl]
   refine ⟨1,_,_,_,rfl,by decide,.inr (by decide),?_⟩
   try refine stI ?_
   try simp (dsimp:=false)(disch:=omega) only [go_sem,Φa,hP,h1_0,h1_2,hops,hopl]
   refine hK6 (b0,b1,b3) _ (some (b3,.cells #[.int .u8 0,.int .u8 0,.int .u8 0,.int .u8 0,.int .u8 0,.int .u8 0,.int .u8 0,.int .u8 0,.int .u8 0,.int .u8 0,.int .u8 0,.int .u8 0,.int .u8 0,.int .u8 0,.int .u8 0,.int .u8 0,.int .u16 0,.int .u16 512,.slice none 0 0,.int .u8 0,.int .u8 0,.slice (some ⟨b0,0,none⟩) 256 256,.slice (some ⟨b1,0,none⟩) 3232 3232] 27 (0,0)) :: some (b1,.cells (zerosV [.int .u8 0] 3232).toArray 5 (0,0)) :: some (b0,.cells (zerosV [.int .u8 0] 256).toArray 5 (0,0)) :: some (g0,.cells #[.int .u8 0,.int .u8 0,.int .u8 0,.int .u8 0,.int .u8 0,.int .u8 0,.int .u8 0,.int .u8 0,.int .u8 0,.int .u8 0,.int .u8 0,.int .u8 0,.int .u8 0,.int .u8 0,.int .u8 0,.int .u8 0,.int .u16 0,.int .u16 0,.slice none 0 0,.int .u8 0,.int .u8 0,.slice none 0 0,.slice none 0 0] 27 (0,0)) :: L) _ (by exact (Less.swap0 _ _ _)) ?_
   try dsimp only
   refine ⟨?_,?_,?_,?_,?_⟩
   ·simp (dsimp:=false)(disch:=omega) only [go_sem,Φa,hP,h1_0,h1_2]
    first | done | rfl | skip
   ·simp (dsimp:=false)(disch:=omega) only [go_sem,Φa,hP,h1_0,h1_2]
   ·simp (dsimp:=false)(disch:=omega) only [go_sem,Φa,hP,h1_0,h1_2]
   ·rfl
   trivial
  try refine stI ?_
  try simp (dsimp:=false)(disch:=omega) only [go_sem,Φa,hP,h1_0,h1_2,hops,hopl]
  refine And.intro ?_ ?_
  ·try refine stI ?_
   try simp (dsimp:=false)(disch:=omega) only [go_sem,Φa,hP,h1_0,h1_2,hops,hopl]
   intro b1
   try refine stI ?_
   try simp (dsimp:=false)(disch:=omega) only [go_sem,Φa,hP,h1_0,h1_2,hops,hopl]
   try with_reducible refine And.intro (Less.drop _ _) ?_
   try refine stI ?_
   try simp (dsimp:=false)(disch:=omega) only [go_sem,Φa,hP,h1_0,h1_2,hops,hopl]
   refine And.intro ?_ ?_
   ·try refine stI ?_
    try simp (dsimp:=false)(disch:=omega) only [go_sem,Φa,hP,h1_0,h1_2,hops,hopl]
    intro b0
    try refine stI ?_
    try simp (dsimp:=false)(disch:=omega) only [go_sem,Φa,hP,h1_0,h1_2,hops,hopl]
    try with_reducible refine And.intro (Less.drop _ _) ?_
    try refine stI ?_
    try simp (dsimp:=false)(disch:=omega) only [go_sem,Φa,hP,h1_0,h1_2,hops,hopl]
    intro b3
    try refine stI ?_
    try simp (dsimp:=false)(disch:=omega) only [go_sem,Φa,hP,h1_0,h1_2,hops,hopl]
    try with_reducible refine And.intro (Less.drop _ _) ?_
    try refine stI ?_
    try simp (dsimp:=false)(disch:=omega) only [go_sem,Φa,hP,h1_0,h1_2,hops,hopl]
    refine ⟨0,_,_,_,rfl,by decide,.inr (by decide),?_⟩
    try refine stI ?_
    try simp (dsimp:=false)(disch:=omega) only [go_sem,Φa,hP,h1_0,h1_2,hops,hopl]
    refine hK6 (b0,b1,b3) _ (some (b3,.cells #[.int .u8 0,.int .u8 0,.int .u8 0,.int .u8 0,.int .u8 0,.int .u8 0,.int .u8 0,.int .u8 0,.int .u8 0,.int .u8 0,.int .u8 0,.int .u8 0,.int .u8 0,.int .u8 0,.int .u8 0,.int .u8 0,.int .u16 0,.int .u16 512,.slice none 0 0,.int .u8 0,.int .u8 0,.slice (some ⟨b0,0,none⟩) 256 256,.slice (some ⟨b1,0,none⟩) 3232 3232] 27 (0,0)) :: some (b1,.cells (zerosV [.int .u8 0] 3232).toArray 5 (0,0)) :: some (b0,.cells (zerosV [.int .u8 0] 256).toArray 5 (0,0)) :: some (g0,.cells #[.int .u8 0,.int .u8 0,.int .u8 0,.int .u8 0,.int .u8 0,.int .u8 0,.int .u8 0,.int .u8 0,.int .u8 0,.int .u8 0,.int .u8 0,.int .u8 0,.int .u8 0,.int .u8 0,.int .u8 0,.int .u8 0,.int .u16 0,.int .u16 0,.slice none 0 0,.int .u8 0,.int .u8 0,.slice none 0 0,.slice none 0 0] 27 (0,0)) :: L) _ (by exact (Less.swap1 _ _ _ _)) ?_
    try dsimp only
    refine ⟨?_,?_,?_,?_,?_⟩
    ·simp (dsimp:=false)(disch:=omega) only [go_sem,Φa,hP,h1_0,h1_2]
     first | done | rfl | skip
    ·simp (dsimp:=false)(disch:=omega) only [go_sem,Φa,hP,h1_0,h1_2]
    ·simp (dsimp:=false)(disch:=omega) only [go_sem,Φa,hP,h1_0,h1_2]
    ·rfl
    trivial
   try refine stI ?_
   try simp (dsimp:=false)(disch:=omega) only [go_sem,Φa,hP,h1_0,h1_2,hops,hopl]
   intro b3
   try refine stI ?_
   try simp (dsimp:=false)(disch:=omega) only [go_sem,Φa,hP,h1_0,h1_2,hops,hopl]
   try with_reducible refine And.intro (Less.drop _ _) ?_
   try refine stI ?_
   try simp (dsimp:=false)(disch:=omega) only [go_sem,Φa,hP,h1_0,h1_2,hops,hopl]
   intro b0
   try refine stI ?_
   try simp (dsimp:=false)(disch:=omega) only [go_sem,Φa,hP,h1_0,h1_2,hops,hopl]
   try with_reducible refine And.intro (Less.drop _ _) ?_
   try refine stI ?_
   try simp (dsimp:=false)(disch:=omega) only [go_sem,Φa,hP,h1_0,h1_2,hops,hopl]
   refine ⟨1,_,_,_,rfl,by decide,.inr (by decide),?_⟩
   try refine stI ?_
   try simp (dsimp:=false)(disch:=omega) only [go_sem,Φa,hP,h1_0,h1_2,hops,hopl]
   refine hK6 (b0,b1,b3) _ (some (b3,.cells #[.int .u8 0,.int .u8 0,.int .u8 0,.int .u8 0,.int .u8 0,.int .u8 0,.int .u8 0,.int .u8 0,.int .u8 0,.int .u8 0,.int .u8 0,.int .u8 0,.int .u8 0,.int .u8 0,.int .u8 0,.int .u8 0,.int .u16 0,.int .u16 512,.slice none 0 0,.int .u8 0,.int .u8 0,.slice (some ⟨b0,0,none⟩) 256 256,.slice (some ⟨b1,0,none⟩) 3232 3232] 27 (0,0)) :: some (b1,.cells (zerosV [.int .u8 0] 3232).toArray 5 (0,0)) :: some (b0,.cells (zerosV [.int .u8 0] 256).toArray 5 (0,0)) :: some (g0,.cells #[.int .u8 0,.int .u8 0,.int .u8 0,.int .u8 0,.int .u8 0,.int .u8 0,.int .u8 0,.int .u8 0,.int .u8 0,.int .u8 0,.int .u8 0,.int .u8 0,.int .u8 0,.int .u8 0,.int .u8 0,.int .u8 0,.int .u16 0,.int .u16 0,.slice none 0 0,.int .u8 0,.int .u8 0,.slice none 0 0,.slice none 0 0] 27 (0,0)) :: L) _ (by exact Less.trans (Less.swap0 _ _ _) (Less.swap1 _ _ _ _)) ?_
   try dsimp only
   refine ⟨?_,?_,?_,?_,?_⟩
   ·simp (dsimp:=false)(disch:=omega) only [go_sem,Φa,hP,h1_0,h1_2]
    first | done | rfl | skip
   ·simp (dsimp:=false)(disch:=omega) only [go_sem,Φa,hP,h1_0,h1_2]
   ·simp (dsimp:=false)(disch:=omega) only [go_sem,Φa,hP,h1_0,h1_2]
   ·rfl
   trivial
  try refine stI ?_
  try simp (dsimp:=false)(disch:=omega) only [go_sem,Φa,hP,h1_0,h1_2,hops,hopl]
  intro b3
  try refine stI ?_
  try simp (dsimp:=false)(disch:=omega) only [go_sem,Φa,hP,h1_0,h1_2,hops,hopl]
  try with_reducible refine And.intro (Less.drop _ _) ?_
  try refine stI ?_
  try simp (dsimp:=false)(disch:=omega) only [go_sem,Φa,hP,h1_0,h1_2,hops,hopl]
  refine And.intro ?_ ?_
  ·try refine stI ?_
   try simp (dsimp:=false)(disch:=omega) only [go_sem,Φa,hP,h1_0,h1_2,hops,hopl]
   intro b0
   try refine stI ?_
   try simp (dsimp:=false)(disch:=omega) only [go_sem,Φa,hP,h1_0,h1_2,hops,hopl]
   try with_reducible refine And.intro (Less.drop _ _) ?_
   try refine stI ?_
   try simp (dsimp:=false)(disch:=omega) only [go_sem,Φa,hP,h1_0,h1_2,hops,hopl]
   intro b1
   try refine stI ?_
   try simp (dsimp:=false)(disch:=omega) only [go_sem,Φa,hP,h1_0,h1_2,hops,hopl]
   try with_reducible refine And.intro (Less.drop _ _) ?_
   try refine stI ?_
   try simp (dsimp:=false)(disch:=omega) only [go_sem,Φa,hP,h1_0,h1_2,hops,hopl]
   refine ⟨2,_,_,_,rfl,by decide,.inr (by decide),?_⟩
   try refine stI ?_
   try simp (dsimp:=false)(disch:=omega) only [go_sem,Φa,hP,h1_0,h1_2,hops,hopl]
   refine hK6 (b0,b1,b3) _ (some (b3,.cells #[.int .u8 0,.int .u8 0,.int .u8 0,.int .u8 0,.int .u8 0,.int .u8 0,.int .u8 0,.int .u8 0,.int .u8 0,.int .u8 0,.int .u8 0,.int .u8 0,.int .u8 0,.int .u8 0,.int .u8 0,.int .u8 0,.int .u16 0,.int .u16 512,.slice none 0 0,.int .u8 0,.int .u8 0,.slice (some ⟨b0,0,none⟩) 256 256,.slice (some ⟨b1,0,none⟩) 3232 3232] 27 (0,0)) :: some (b1,.cells (zerosV [.int .u8 0] 3232).toArray 5 (0,0)) :: some (b0,.cells (zerosV [.int .u8 0] 256).toArray 5 (0,0)) :: some (g0,.cells #[.int .u8 0,.int .u8 0,.int .u8 0,.int .u8 0,.int .u8 0,.int .u8 0,.int .u8 0,.int .u8 0,.int .u8 0,.int .u8 0,.int .u8 0,.int .u8 0,.int .u8 0,.int .u8 0,.int .u8 0,.int .u8 0,.int .u16 0,.int .u16 0,.slice none 0 0,.int .u8 0,.int .u8 0,.slice none 0 0,.slice none 0 0] 27 (0,0)) :: L) _ (by exact Less.trans (Less.swap1 _ _ _ _) (Less.swap0 _ _ _)) ?_
   try dsimp only
   refine ⟨?_,?_,?_,?_,?_⟩
   ·simp (dsimp:=false)(disch:=omega) only [go_sem,Φa,hP,h1_0,h1_2]
    first | done | rfl | skip
   ·simp (dsimp:=false)(disch:=omega) only [go_sem,Φa,hP,h1_0,h1_2]
   ·simp (dsimp:=false)(disch:=omega) only [go_sem,Φa,hP,h1_0,h1_2]
   ·rfl
   trivial
  try refine stI ?_
  try simp (dsimp:=false)(disch:=omega) only [go_sem,Φa,hP,h1_0,h1_2,hops,hopl]
  intro b1
  try refine stI ?_
  try simp (dsimp:=false)(disch:=omega) only [go_sem,Φa,hP,h1_0,h1_2,hops,hopl]
  try with_reducible refine And.intro (Less.drop _ _) ?_
  try refine stI ?_
  try simp (dsimp:=false)(disch:=omega) only [go_sem,Φa,hP,h1_0,h1_2,hops,hopl]
  intro b0
  try refine stI ?_
  try simp (dsimp:=false)(disch:=omega) only [go_sem,Φa,hP,h1_0,h1_2,hops,hopl]
  try with_reducible refine And.intro (Less.drop _ _) ?_
  try refine stI ?_
  try simp (dsimp:=false)(disch:=omega) only [go_sem,Φa,hP,h1_0,h1_2,hops,hopl]
  refine ⟨2,_,_,_,rfl,by decide,.inr (by decide),?_⟩
  try refine stI ?_
  try simp (dsimp:=false)(disch:=omega) only [go_sem,Φa,hP,h1_0,h1_2,hops,hopl]
  refine hK6 (b0,b1,b3) _ (some (b3,.cells #[.int .u8 0,.int .u8 0,.int .u8 0,.int .u8 0,.int .u8 0,.int .u8 0,.int .u8 0,.int .u8 0,.int .u8 0,.int .u8 0,.int .u8 0,.int .u8 0,.int .u8 0,.int .u8 0,.int .u8 0,.int .u8 0,.int .u16 0,.int .u16 512,.slice none 0 0,.int .u8 0,.int .u8 0,.slice (some ⟨b0,0,none⟩) 256 256,.slice (some ⟨b1,0,none⟩) 3232 3232] 27 (0,0)) :: some (b1,.cells (zerosV [.int .u8 0] 3232).toArray 5 (0,0)) :: some (b0,.cells (zerosV [.int .u8 0] 256).toArray 5 (0,0)) :: some (g0,.cells #[.int .u8 0,.int .u8 0,.int .u8 0,.int .u8 0,.int .u8 0,.int .u8 0,.int .u8 0,.int .u8 0,.int .u8 0,.int .u8 0,.int .u8 0,.int .u8 0,.int .u8 0,.int .u8 0,.int .u8 0,.int .u8 0,.int .u16 0,.int .u16 0,.slice none 0 0,.int .u8 0,.int .u8 0,.slice none 0 0,.slice none 0 0] 27 (0,0)) :: L) _ (by exact Less.trans (Less.swap0 _ _ _) (Less.trans (Less.swap1 _ _ _ _) (Less.swap0 _ _ _))) ?_
  try dsimp only
  refine ⟨?_,?_,?_,?_,?_⟩
  ·simp (dsimp:=false)(disch:=omega) only [go_sem,Φa,hP,h1_0,h1_2]
   first | done | rfl | skip
  ·simp (dsimp:=false)(disch:=omega) only [go_sem,Φa,hP,h1_0,h1_2]
  ·simp (dsimp:=false)(disch:=omega) only [go_sem,Φa,hP,h1_0,h1_2]
  ·rfl
  trivial
 intro ss T2 L2 hI
 obtain ⟨b0,b1,b3⟩ := ss
 try dsimp only at hI 
 simp only [h1_0,h1_2] at hI 
 obtain ⟨h2_4,h2_0,h2_2,hL2,hinv⟩ := hI
 replace hL2 := hL2.symm
 subst hL2
 clear h1_0 h1_2 T1
 refine SX.seq_k fun K7 hK7=>?_
 have hpl2 : p.length ≤ 3232 := by omega
 refine SX.region_d [some 12,some 13,some 14,some 15] rfl (fun ops hops=>?_)
 unfold Dsts at hops
 simp (dsimp:=false)(disch:=omega) only [go_sem,Φa,hP,h2_4,h2_0,h2_2,hops]
 refine ⟨_,Cell.at 0 rfl rfl,?_⟩
 try refine stI ?_
 try simp (dsimp:=false)(disch:=omega) only [go_sem,Φa,hP,h2_4,h2_0,h2_2,hops]
 refine YCopy.ints (i := 1) (hP ▸ T.elS_25) (SlI.cons _ (SlI.cons _ (SlI.cons _ (SlI.cons _ hp)))) rfl (by simp [zerosV]; omega) (.inr (Nat.zero_le _)) ?_
 rw [copied hpl2]
 try refine stI ?_
 try simp (dsimp:=false)(disch:=omega) only [go_sem,Φa,hP,h2_4,h2_0,h2_2,hops]
 refine hK7 _ _ ?_
 try clear hK7 K7
 refine SX.seq_k fun K8 hK8=>?_
 refine SX.region_d [some 16,none,some 3] rfl (fun ops hops=>?_)
 unfold Dsts at hops
 simp (dsimp:=false)(disch:=omega) only [go_sem,Φa,hP,h2_4,h2_0,h2_2,hops]
 iterate 23 refine ⟨_,Cell.at 0 rfl rfl,?_⟩
 try refine stI ?_
 try simp (dsimp:=false)(disch:=omega) only [go_sem,Φa,hP,h2_4,h2_0,h2_2,hops]
 refine ⟨3,_,_,_,rfl,by decide,.inr (by decide),?_⟩
 try refine stI ?_
 try simp (dsimp:=false)(disch:=omega) only [go_sem,Φa,hP,h2_4,h2_0,h2_2,hops]
 refine hK8 _ _ ?_
 try clear hK8 K8
 refine SX.ret ?_
 simp only [andThen_normal,andThen_ret,andThen_exit,inBlk_normal,inBlk_ret,inBlk_exit,Nat.reduceEqDiff,if_true,if_false,↓reduceIte,retQ_ret]
 try simp only [res0,res1,res2,res3,stK_e,resX,resK,oneOr,ld_ptr,loadVC,loadN,List.nil_append,List.cons_append,Nat.reduceAdd,Nat.add_zero,Nat.zero_add,Addr.add_lit,Addr.add_zero',add_addS,T.elA_27,T.lay_27,T.szA_27,T.zr_27,Tryz.underlying27,go_sem,Φa,hP,h2_4,h2_0,h2_2]
 refine ⟨_,none :: some (b0,.cells (ints .u8 (List.replicate 256 0)).toArray 5 (0,0)) :: some (b1,.cells (ints .u8 (p ++ List.replicate (3232 - p.length) 0)).toArray 5 (0,0)) :: L,?_,⟨_,Cell.at 3 rfl rfl,_,Cell.at 3 rfl rfl,_,Cell.at 3 rfl rfl,_,Cell.at 3 rfl rfl,_,Cell.at 3 rfl rfl,_,Cell.at 3 rfl rfl,_,Cell.at 3 rfl rfl,_,Cell.at 3 rfl rfl,_,Cell.at 3 rfl rfl,_,Cell.at 3 rfl rfl,_,Cell.at 3 rfl rfl,_,Cell.at 3 rfl rfl,_,Cell.at 3 rfl rfl,_,Cell.at 3 rfl rfl,_,Cell.at 3 rfl rfl,_,Cell.at 3 rfl rfl,_,Cell.at 3 rfl rfl,_,Cell.at 3 rfl rfl,_,Cell.at 3 rfl rfl,_,Cell.at 3 rfl rfl,_,Cell.at 3 rfl rfl,_,Cell.at 3 rfl rfl,_,Cell.at 3 rfl rfl,rfl⟩,?_⟩
 ·rw [zerosI]
  exact (Less.sublist (.cons _ (.cons_cons _ (.cons_cons _ (.cons _ (List.Sublist.refl _)))))).trans ((Less.swap0 _ _ _).trans (Less.none _))
 unfold newG
 rw [if_neg (by omega)]
 exact ⟨_,_,_,none,_,_,rfl,rfl,⟨RowI.nil _ _,rowFull (by simp),rowFull (by simp; omega)⟩⟩
end Go.Proofs.YtgioegdjeodpiaaGreat
