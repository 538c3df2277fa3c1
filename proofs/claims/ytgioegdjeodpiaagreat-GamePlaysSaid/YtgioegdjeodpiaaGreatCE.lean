/- A part of a proof: contracts and plain facts that it stands on. -/
import Derived.Test.YtgioegdjeodpiaaGreatCD
set_option linter.unusedVariables false
set_option linter.unusedSimpArgs false
namespace Go.Proofs.YtgioegdjeodpiaaGreat
open Go.RowKit Go.SX

def pD (r : RowT) (w : Nat) : Bool := decide (wrdW r (ordW r w) = (w : Int)) && (decide (r.op ≠ 1) || decide (w < 4096))
theorem refT_len : refT.length = 31 := rfl
theorem WC_len (r : RowT) : (WC r).length = 4 := rfl
theorem refDec_some {w k : Nat} {r : RowT} (hk : refT[k]? = some r) (hp : pD r w = true) (hl : ∀ j,k < j → ∀ r',refT[j]? = some r' → pD r' w = false) : refDec w = some (ordW r w) := by
 have hlt := (List.getElem?_eq_some_iff.1 hk).1
 have e : refT = refT.take k ++ r :: refT.drop (k + 1) := by
  conv=>lhs; rw [← List.take_append_drop k refT]
  rw [List.drop_eq_getElem_cons hlt,(List.getElem?_eq_some_iff.1 hk).2]
 have hn : (refT.drop (k + 1)).reverse.find? (fun r=>pD r w) = none := by
  rw [List.find?_eq_none]
  intro x hx
  obtain ⟨j,hj⟩ := List.mem_iff_getElem?.1 (List.mem_reverse.1 hx)
  rw [List.getElem?_drop] at hj
  rw [hl (k + 1 + j) (by omega) x hj]
  decide
 unfold refDec
 show (refT.reverse.find? (fun r=>pD r w)).map _ = _
 rw [e,List.reverse_append,List.reverse_cons,List.append_assoc,List.find?_append,hn]
 simp [hp]
theorem gB_undefH (want : Bool) (Y N F : Prop) : gBH undef want Y N F () () () = F := rfl
theorem refDec_none {w : Nat} (hl : ∀ (j : Nat) (r' : RowT),refT[j]? = some r' → pD r' w = false) : refDec w = none := by
 unfold refDec
 show (refT.reverse.find? (fun r=>pD r w)).map _ = _
 rw [List.find?_eq_none.2]
 ·rfl
 intro x hx
 obtain ⟨j,hj⟩ := List.mem_iff_getElem?.1 (List.mem_reverse.1 hx)
 rw [hl j x hj]
 decide
theorem refT_fs {r : RowT} (h : r ∈ refT) : r.fs.length ≤ 1000000 := by
 rcases (kinds (refT_mem h)).1 with h | h | h | h | h | h <;> rw [h.1] <;> decide
theorem ordW_ok {r : RowT} (h : r ∈ refT) {w : Nat} (hw : w < 65536) : OkO (ordW r w) := by
 have ht := refT_mem h
 have h1 := table_in (List.mem_iff_getElem?.1 ht).choose_spec
 refine ⟨h1.1,?_,?_,?_,?_,?_⟩ <;> simp only [ordW,ordB,ordN,ordY,ordX] <;> split <;> omega
set_option maxHeartbeats 1000000 in
set_option maxRecDepth 100000 in
theorem refDecode_spec {Γ : Ctx} (hP : Γ.P = Tryz.prog) {L : Hp} {w : Nat} (hw : w < 65536) :
  SCall Γ 66 #[(.int .u16 (w : Int))] L (decodeR w L) := by
 refine SCall.enter (n := 43) (resX Γ [.cell 2 60,.tmp 3]) (hP ▸ Tryz.func66) rfl rfl (by simp) (resX_ok rfl) ?_
 refine SX.seq_k fun K1 hK1=>?_
 refine SX.region_d [some 2,some 3] rfl (fun ops hops=>?_)
 unfold Dsts at hops
 simp (dsimp:=false)(disch:=omega) only [go_sem,ia_someH,hP,hops]
 intro b2
 try refine stI ?_
 try simp (dsimp:=false)(disch:=omega) only [go_sem,ia_someH,hP,hops]
 refine hK1 _ _ ?_
 try clear hK1 K1
 refine SX.seq_k fun K2 hK2=>?_
 refine SX.region_d [some 7,some 4] rfl (fun ops hops=>?_)
 unfold Dsts at hops
 simp (dsimp:=false)(disch:=omega) only [go_sem,ia_someH,hP,hops]
 refine SCall.mono (Words_spec hP) ?_
 rintro v_ L_ ⟨bw,rfl,rfl⟩
 try refine stI ?_
 try simp (dsimp:=false)(disch:=omega) only [go_sem,ia_someH,hP,hops]
 refine hK2 _ _ ?_
 try clear hK2 K2
 refine SX.seq_k fun K3 hK3=>?_
 refine SX.seq_k fun K4 hK4=>?_
 refine SX.region_d [some 8,some 9,some 10,some 5] rfl (fun ops hops=>?_)
 unfold Dsts at hops
 simp (dsimp:=false)(disch:=omega) only [go_sem,ia_someH,hP,hops]
 repeat' ((first | refine And.intro (by omega) ?_ | fail); try refine stI ?_; try simp (dsimp:=false)(disch:=omega) only [go_sem,ia_someH,hP,hops])
 refine hK4 _ _ ?_
 try clear hK4 K4
 refine SX.block ?_
 refine SX.live [0,2,4,5] (fun T1 hT1=>?_)
 simp only [forall_mem_cons',forall_mem_nil',go_sem,ia_someH,hP] at hT1
 obtain ⟨h1_0,h1_2,h1_4,h1_5⟩ := hT1
 refine SX.loop_k (fun (ss : (Nat)) T L'=>(fun (k : Nat)=>T 5 = .int .i64 ((k : Int) - 1) ∧ T 0 = T1 0 ∧ T 2 = T1 2 ∧ T 4 = T1 4 ∧ L' = some (bw,.cells (refT.flatMap WC).toArray 103 (0,0)) :: some (b2,.cells zeroO.cells.toArray 60 (0,0)) :: L ∧ (k ≤ 31 ∧ ∀ j,k ≤ j → ∀ r',refT[j]? = some r' → pD r' w = false)) (ss)) (fun (ss : (Nat))=>(fun (k : Nat)=>k) (ss)) 31 ?_ ?_
 ·try dsimp only
  refine ⟨?_,?_,?_,?_,?_,?_⟩
  ·first | exact h1_5 | (rw [h1_5]; rfl) | (rw [h1_5]; simp; done)
  ·rfl
  ·rfl
  ·rfl
  ·rfl
  refine ⟨Nat.le_refl _,fun j hj r' hr'=>?_⟩
  have := (List.getElem?_eq_some_iff.1 hr').1
  rw [refT_len] at this
  omega
 intro k T2 L2 hI K5 hK5
 try dsimp only at hI hK5
 simp only [h1_0,h1_2,h1_4] at hI hK5
 obtain ⟨h2_5,h2_0,h2_2,h2_4,hL2,⟨hk,hin⟩⟩ := hI
 replace hL2 := hL2.symm
 subst hL2
 clear h1_0 h1_2 h1_4 h1_5 T1
 refine SX.seq_k fun K6 hK6=>?_
 refine SX.seq_k fun K7 hK7=>?_
 refine SX.region_d [some 11,some 12] rfl (fun ops hops=>?_)
 unfold Dsts at hops
 simp (dsimp:=false)(disch:=omega) only [go_sem,ia_someH,hP,h2_5,h2_0,h2_2,h2_4,hops]
 repeat' ((first | refine And.intro (by omega) ?_ | fail); try refine stI ?_; try simp (dsimp:=false)(disch:=omega) only [go_sem,ia_someH,hP,h2_5,h2_0,h2_2,h2_4,hops])
 refine hK7 _ _ ?_
 try clear hK7 K7
 refine SX.cond_k fun X8 Y8 hX8 hY8=>?_
 simp (dsimp:=false)(disch:=omega) only [go_sem,ia_someH,hP,h2_5,h2_0,h2_2,h2_4,condVC]
 refine ⟨fun hc12=>hX8 ?_,fun hc12=>hY8 ?_⟩
 ·clear hX8 hY8 X8 Y8
  refine SX.skip ?_
  try simp only [andThen_normal,andThen_ret,andThen_exit,inBlk_normal,inBlk_ret,inBlk_exit,Nat.reduceEqDiff,if_true,if_false,↓reduceIte]
  refine hK6 _ _ ?_
  try clear hK6 K6
  refine SX.seq_k fun K9 hK9=>?_
  refine SX.block ?_
  refine SX.seq_k fun K10 hK10=>?_
  have hk1 : 1 ≤ k := by omega
  obtain ⟨r,hrk⟩ : ∃ r,refT[k - 1]? = some r := ⟨_,List.getElem?_eq_getElem (by rw [refT_len]; omega)⟩
  have hrm := List.mem_of_getElem? hrk
  have hl := refT_fs hrm
  have hoo := ordW_ok hrm hw
  have hid : ((k : Int) - 1).toNat = k - 1 := by omega
  have w0 : (refT.flatMap WC)[(k - 1) * 4]? = some (.int .u8 (r.op : Int)) := flat_at (k := 0) WC_len hrk (by decide)
  have w1 : (refT.flatMap WC)[(k - 1) * 4 + 1]? = some (.int .u16 (r.word : Int)) := flat_at (k := 1) WC_len hrk (by decide)
  have w2 : (refT.flatMap WC)[(k - 1) * 4 + 2]? = some (.string ⟨(r.fs.map fch).toArray⟩) := flat_at (k := 2) WC_len hrk (by decide)
  have w3 : (refT.flatMap WC)[(k - 1) * 4 + 3]? = some (.string r.name) := flat_at (k := 3) WC_len hrk (by decide)
  refine SX.region_d [some 15,some 16,some 17,some 18,some 19,some 20,some 6,none] rfl (fun ops hops=>?_)
  unfold Dsts at hops
  simp (dsimp:=false)(disch:=omega) only [go_sem,ia_someH,hP,h2_5,h2_0,h2_2,h2_4,hops,hid]
  refine ⟨_,Cell.at 0 rfl w0,_,Cell.at 0 rfl w1,_,Cell.at 0 rfl w2,_,Cell.at 0 rfl w3,?_⟩
  try refine stI ?_
  try simp (dsimp:=false)(disch:=omega) only [go_sem,ia_someH,hP,h2_5,h2_0,h2_2,h2_4,hops,hid]
  first | (refine SCall.mono (order_spec (r := r) (w := w) hP hl hw) ?_; rintro v_ L_ ⟨hv_,hL_⟩; rw [hv_,hL_]; clear hv_ hL_ v_ L_) | refine ⟨_,order_spec (r := r) (w := w) hP hl hw,?_⟩ | refine ⟨_,fun L0 hl0=>order_spec (r := r) (w := w) hP hl hw,?_⟩
  unfold Ord.cells
  try refine stI ?_
  try simp (dsimp:=false)(disch:=omega) only [go_sem,ia_someH,hP,h2_5,h2_0,h2_2,h2_4,hops,hid]
  intro b6
  try refine stI ?_
  try simp (dsimp:=false)(disch:=omega) only [go_sem,ia_someH,hP,h2_5,h2_0,h2_2,h2_4,hops,hid]
  refine ⟨0,_,_,_,rfl,by decide,.inr (by decide),?_⟩
  try refine stI ?_
  try simp (dsimp:=false)(disch:=omega) only [go_sem,ia_someH,hP,h2_5,h2_0,h2_2,h2_4,hops,hid]
  refine hK10 _ _ ?_
  try clear hK10 K10
  refine SX.live [0,2,4,5,6] (fun T3 hT3=>?_)
  simp only [forall_mem_cons',forall_mem_nil',go_sem,ia_someH,hP,h2_5,h2_0,h2_2,h2_4] at hT3
  obtain ⟨h3_0,h3_2,h3_4,h3_5,h3_6⟩ := hT3
  clear h2_5 h2_0 h2_2 h2_4 T2
  refine SX.seq_k fun K11 hK11=>?_
  refine SX.quiet_xd (hP ▸ T.mixed) (by kernel_rfl) [some 21,some 22,some 23,some 24,some 25,some 26,some 27,some 28,some 29,some 30,some 31,some 32,some 33,some 34,some 35,some 36,some 37,some 38,some 39,some 40] rfl (fun ops hops=>?_)
  unfold Dsts at hops
  refine QX.live [0,2,4,5,6] (fun T4 hT4=>?_)
  simp only [forall_mem_cons',forall_mem_nil',go_sem,ia_someH,hP,h3_0,h3_2,h3_4,h3_5,h3_6] at hT4
  obtain ⟨h4_0,h4_2,h4_4,h4_5,h4_6⟩ := hT4
  clear h3_0 h3_2 h3_4 h3_5 h3_6 T3
  refine QX.join 20 (fun (ss : Unit) T L'=>T 40 = .bool (pD r w) ∧ T 0 = T4 0 ∧ T 2 = T4 2 ∧ T 4 = T4 4 ∧ T 5 = T4 5 ∧ T 6 = T4 6 ∧ L' = some (b6,.cells (ordW r w).cells.toArray 60 (0,0)) :: some (bw,.cells (refT.flatMap WC).toArray 103 (0,0)) :: some (b2,.cells zeroO.cells.toArray 60 (0,0)) :: L ∧ (True)) (fun K12 hK12=>?_) ?_
  ·simp only [h4_0,h4_2,h4_4,h4_5,h4_6] at hK12
   simp (dsimp:=false)(disch:=omega) only [go_sem,ia_someH,hP,h4_0,h4_2,h4_4,h4_5,h4_6,hops,hid,gB_undefH]
   repeat' (first | refine iteB (fun hg=>?_) (fun hg=>?_) | refine iteI (fun hg=>?_) (fun hg=>?_) | ((first | refine ⟨_,Cell.at 1 rfl w0,_,Cell.at 1 rfl w1,_,Cell.at 1 rfl w2,_,Cell.at 1 rfl w3,?_⟩ | refine ⟨_,Cell.at 1 rfl w0,?_⟩ | (iterate 6 refine ⟨_,Cell.at 0 rfl rfl,?_⟩) | refine ⟨_,word_spec (r := r) (o := ordW r w) hP hl hoo,?_⟩ | refine And.intro (by omega) ?_ | (iterate 6 refine ⟨_,Cell.at 0 rfl rfl,?_⟩) | (iterate 6 refine ⟨_,Cell.at 1 rfl rfl,?_⟩) | (iterate 6 refine ⟨_,Cell.at 2 rfl rfl,?_⟩) | (iterate 4 refine ⟨_,Cell.at 0 rfl rfl,?_⟩) | (iterate 4 refine ⟨_,Cell.at 1 rfl rfl,?_⟩) | (iterate 4 refine ⟨_,Cell.at 2 rfl rfl,?_⟩) | refine ⟨_,Cell.at 0 rfl rfl,?_⟩ | refine ⟨_,Cell.at 1 rfl rfl,?_⟩ | refine ⟨_,Cell.at 2 rfl rfl,?_⟩ | fail); try refine stI ?_; try simp (dsimp:=false)(disch:=omega) only [go_sem,ia_someH,hP,h4_0,h4_2,h4_4,h4_5,h4_6,hops,hid,gB_undefH]) | fail)
   all_goals
    refine hK12 () _ (some (b6,.cells (ordW r w).cells.toArray 60 (0,0)) :: some (bw,.cells (refT.flatMap WC).toArray 103 (0,0)) :: some (b2,.cells zeroO.cells.toArray 60 (0,0)) :: L) _ (by rfl) ?_
    try dsimp only
    refine ⟨?_,?_,?_,?_,?_,?_,?_,?_⟩
    ·simp (dsimp:=false)(disch:=omega) only [go_sem,ia_someH,hP,h4_0,h4_2,h4_4,h4_5,h4_6]
     first | done | (refine congrArg Value.bool ?_; rw [Bool.eq_iff_iff]; simp only [pD,Bool.and_eq_true,Bool.or_eq_true,decide_eq_true_eq,ne_eq,Bool.false_eq_true,true_iff,false_iff]; omega)
    ·simp (dsimp:=false)(disch:=omega) only [go_sem,ia_someH,hP,h4_0,h4_2,h4_4,h4_5,h4_6]
    ·simp (dsimp:=false)(disch:=omega) only [go_sem,ia_someH,hP,h4_0,h4_2,h4_4,h4_5,h4_6]
    ·simp (dsimp:=false)(disch:=omega) only [go_sem,ia_someH,hP,h4_0,h4_2,h4_4,h4_5,h4_6]
    ·simp (dsimp:=false)(disch:=omega) only [go_sem,ia_someH,hP,h4_0,h4_2,h4_4,h4_5,h4_6]
    ·simp (dsimp:=false)(disch:=omega) only [go_sem,ia_someH,hP,h4_0,h4_2,h4_4,h4_5,h4_6]
    ·rfl
    trivial
  intro ss T5 L5 hE5 hI
  simp only [h4_0,h4_2,h4_4,h4_5,h4_6] at hI 
  obtain ⟨h5_40,h5_0,h5_2,h5_4,h5_5,h5_6,hL5,hinv⟩ := hI
  replace hL5 := hL5.symm
  subst hL5
  clear h4_0 h4_2 h4_4 h4_5 h4_6 T4
  clear hE5
  refine QX.done ?_
  simp (dsimp:=false)(disch:=omega) only [go_sem,ia_someH,hP,h5_40,h5_0,h5_2,h5_4,h5_5,h5_6,hops]
  refine hK11 _ _ ?_
  try clear hK11 K11
  refine SX.cond_k fun X13 Y13 hX13 hY13=>?_
  simp (dsimp:=false)(disch:=omega) only [go_sem,ia_someH,hP,h5_40,h5_0,h5_2,h5_4,h5_5,h5_6,condVC]
  refine ⟨fun hc40=>hX13 ?_,fun hc40=>hY13 ?_⟩
  ·clear hX13 hY13 X13 Y13
   refine SX.seq_k fun K14 hK14=>?_
   refine SX.region_d [some 41,none,some 3] rfl (fun ops hops=>?_)
   unfold Dsts at hops
   simp (dsimp:=false)(disch:=omega) only [go_sem,ia_someH,hP,h5_40,h5_0,h5_2,h5_4,h5_5,h5_6,hops]
   (iterate 6 refine ⟨_,Cell.at 0 rfl rfl,?_⟩)
   try refine stI ?_
   try simp (dsimp:=false)(disch:=omega) only [go_sem,ia_someH,hP,h5_40,h5_0,h5_2,h5_4,h5_5,h5_6,hops]
   refine ⟨2,_,_,_,rfl,by decide,.inr (by decide),?_⟩
   try refine stI ?_
   try simp (dsimp:=false)(disch:=omega) only [go_sem,ia_someH,hP,h5_40,h5_0,h5_2,h5_4,h5_5,h5_6,hops]
   refine hK14 _ _ ?_
   try clear hK14 K14
   refine SX.ret ?_
   simp only [andThen_normal,andThen_ret,andThen_exit,inBlk_normal,inBlk_ret,inBlk_exit,Nat.reduceEqDiff,if_true,if_false,↓reduceIte,retQ_ret]
   try simp only [res0,res1,res2,res3,stK_e,resX,resK,oneOr,ld_ptr,loadVC,loadN,List.nil_append,List.cons_append,Nat.reduceAdd,Nat.add_zero,Nat.zero_add,Addr.add_lit,Addr.add_zero',add_addS,T.elA_60,T.lay_60,T.szA_60,T.zr_60,Tryz.underlying60,go_sem,ia_someH,hP,h5_40,h5_0,h5_2,h5_4,h5_5,h5_6]
   have hsome := refDec_some hrk (by simpa [pD] using hc40) (fun j hj r' hr'=>hin j (by omega) r' hr')
   rw [refDec_eq hw] at hsome
   refine ⟨_,L,Less.drops (Less.drops (Less.drop _ _)),⟨_,Cell.at 2 rfl rfl,_,Cell.at 2 rfl rfl,_,Cell.at 2 rfl rfl,_,Cell.at 2 rfl rfl,_,Cell.at 2 rfl rfl,_,Cell.at 2 rfl rfl,rfl⟩,?_⟩
   unfold decodeR
   rw [hsome]
   exact ⟨rfl,rfl⟩
  clear hX13 hY13 X13 Y13
  refine SX.skip ?_
  try simp only [andThen_normal,andThen_ret,andThen_exit,inBlk_normal,inBlk_ret,inBlk_exit,Nat.reduceEqDiff,if_true,if_false,↓reduceIte]
  refine hK9 _ _ ?_
  try clear hK9 K9
  refine SX.region_d [some 13,some 14,some 5] rfl (fun ops hops=>?_)
  unfold Dsts at hops
  simp (dsimp:=false)(disch:=omega) only [go_sem,ia_someH,hP,h5_40,h5_0,h5_2,h5_4,h5_5,h5_6,hops]
  repeat' ((first | refine And.intro (by omega) ?_ | fail); try refine stI ?_; try simp (dsimp:=false)(disch:=omega) only [go_sem,ia_someH,hP,h5_40,h5_0,h5_2,h5_4,h5_5,h5_6,hops])
  refine hK5 (k - 1) _ (some (bw,.cells (refT.flatMap WC).toArray 103 (0,0)) :: some (b2,.cells zeroO.cells.toArray 60 (0,0)) :: L) _ (by first | exact Less.refl _ | exact Less.drop _ _ | exact Less.drops (Less.drop _ _) | exact Less.drops (Less.drops (Less.drop _ _)) | exact Less.drops (Less.drops (Less.drops (Less.drop _ _))) | exact Less.drops (Less.drops (Less.drops (Less.drops (Less.drop _ _))))) ?_ ?_
  ·try dsimp only
   refine ⟨?_,?_,?_,?_,?_,?_⟩
   ·simp (dsimp:=false)(disch:=omega) only [go_sem,ia_someH,hP,h5_40,h5_0,h5_2,h5_4,h5_5,h5_6]
    first | done | (refine congrArg (Value.int .i64) ?_; omega)
   ·simp (dsimp:=false)(disch:=omega) only [go_sem,ia_someH,hP,h5_40,h5_0,h5_2,h5_4,h5_5,h5_6]
   ·simp (dsimp:=false)(disch:=omega) only [go_sem,ia_someH,hP,h5_40,h5_0,h5_2,h5_4,h5_5,h5_6]
   ·simp (dsimp:=false)(disch:=omega) only [go_sem,ia_someH,hP,h5_40,h5_0,h5_2,h5_4,h5_5,h5_6]
   ·rfl
   refine ⟨by omega,fun j hj r' hr'=>?_⟩
   by_cases e : j = k - 1
   ·subst e
    rw [hrk] at hr'
    cases hr'
    simpa [pD] using hc40
   exact hin j (by omega) r' hr'
  (try dsimp only); omega
 clear hX8 hY8 X8 Y8
 refine SX.exit ?_
 try simp only [andThen_normal,andThen_ret,andThen_exit,inBlk_normal,inBlk_ret,inBlk_exit,Nat.reduceEqDiff,if_true,if_false,↓reduceIte]
 refine hK3 _ _ ?_
 try clear hK3 K3
 refine SX.seq_k fun K15 hK15=>?_
 refine SX.region_d [some 42,none,some 3] rfl (fun ops hops=>?_)
 unfold Dsts at hops
 simp (dsimp:=false)(disch:=omega) only [go_sem,ia_someH,hP,h2_5,h2_0,h2_2,h2_4,hops]
 refine ⟨1,_,_,_,rfl,by decide,.inr (by decide),?_⟩
 try refine stI ?_
 try simp (dsimp:=false)(disch:=omega) only [go_sem,ia_someH,hP,h2_5,h2_0,h2_2,h2_4,hops]
 refine hK15 _ _ ?_
 try clear hK15 K15
 refine SX.ret ?_
 simp only [andThen_normal,andThen_ret,andThen_exit,inBlk_normal,inBlk_ret,inBlk_exit,Nat.reduceEqDiff,if_true,if_false,↓reduceIte,retQ_ret]
 try simp only [res0,res1,res2,res3,stK_e,resX,resK,oneOr,ld_ptr,loadVC,loadN,List.nil_append,List.cons_append,Nat.reduceAdd,Nat.add_zero,Nat.zero_add,Addr.add_lit,Addr.add_zero',add_addS,T.elA_60,T.lay_60,T.szA_60,T.zr_60,Tryz.underlying60,go_sem,ia_someH,hP,h2_5,h2_0,h2_2,h2_4]
 have hnone := refDec_none (w := w) (fun j r' hr'=>hin j (by omega) r' hr')
 rw [refDec_eq hw] at hnone
 refine ⟨_,L,Less.drops (Less.drop _ _),⟨_,Cell.at 1 rfl rfl,_,Cell.at 1 rfl rfl,_,Cell.at 1 rfl rfl,_,Cell.at 1 rfl rfl,_,Cell.at 1 rfl rfl,_,Cell.at 1 rfl rfl,rfl⟩,?_⟩
 unfold decodeR
 rw [hnone]
 exact ⟨rfl,rfl⟩


end Go.Proofs.YtgioegdjeodpiaaGreat
namespace Go.Proofs.YtgioegdjeodpiaaGreat
open Go.RowKit Go.SX
set_option maxHeartbeats 1000000
set_option maxRecDepth 100000

section
variable {g : GM} {sv pv mv : Value}
theorem gcells_length : (g.cells sv pv mv).length = 23 := rfl
theorem gV {x : Nat} (h : x < 16) : (g.cells sv pv mv)[x]? = some (.int .u8 (g.V.getD x 0)) := by
 match x,h with
 | 0,_ | 1,_ | 2,_ | 3,_ | 4,_ | 5,_ | 6,_ | 7,_ | 8,_ | 9,_ | 10,_ | 11,_ | 12,_ | 13,_ | 14,_ | 15,_=>rfl
 | n + 16,h=>omega
theorem gV_set {x : Nat} {b : Int} (hl : g.V.length = 16) (h : x < 16) : (g.cells sv pv mv).set x (.int .u8 b) = GM.cells { g with V := g.V.set x b } sv pv mv := by
 have key : ∀ j,(g.V.set x b).getD j 0 = if x = j then b else g.V.getD j 0 := fun j=>getD_set g.V x j b (by omega)
 unfold GM.cells
 simp only [key]
 match x,h with
 | 0,_ | 1,_ | 2,_ | 3,_ | 4,_ | 5,_ | 6,_ | 7,_ | 8,_ | 9,_ | 10,_ | 11,_ | 12,_ | 13,_ | 14,_ | 15,_=>rfl
 | n + 16,h=>omega
end
theorem one_spec {Γ : Ctx} (hP : Γ.P = Tryz.prog) {L : Hp} {b : Bool} :
  SCall Γ 86 #[(.bool b)] L (fun v L'=>v = .int .u8 (truthI b) ∧ L' = L) := by
 refine SCall.enter (n := 4) (res1 2) (hP ▸ Tryz.func86) rfl rfl (by simp) (res1_ok rfl) ?_
 refine SX.seq_k fun K1 hK1=>?_
 refine SX.region_d [some 2] rfl (fun ops hops=>?_)
 unfold Dsts at hops
 simp (dsimp:=false)(disch:=omega) only [go_sem,ia_someH,hP,hops]
 refine hK1 _ _ ?_
 try clear hK1 K1
 refine SX.seq_k fun K2 hK2=>?_
 refine SX.seq_k fun K3 hK3=>?_
 refine SX.region_d [some 3] rfl (fun ops hops=>?_)
 unfold Dsts at hops
 simp (dsimp:=false)(disch:=omega) only [go_sem,ia_someH,hP,hops]
 refine hK3 _ _ ?_
 try clear hK3 K3
 refine SX.cond_k fun X4 Y4 hX4 hY4=>?_
 simp (dsimp:=false)(disch:=omega) only [go_sem,ia_someH,hP,condVC]
 refine ⟨fun hc3=>hX4 ?_,fun hc3=>hY4 ?_⟩
 ·clear hX4 hY4 X4 Y4
  refine SX.seq_k fun K5 hK5=>?_
  refine SX.region_d [some 2] rfl (fun ops hops=>?_)
  unfold Dsts at hops
  simp (dsimp:=false)(disch:=omega) only [go_sem,ia_someH,hP,hops]
  refine hK5 _ _ ?_
  try clear hK5 K5
  refine SX.ret ?_
  simp only [andThen_normal,andThen_ret,andThen_exit,inBlk_normal,inBlk_ret,inBlk_exit,Nat.reduceEqDiff,if_true,if_false,↓reduceIte,retQ_ret]
  try simp only [res0,res1,res2,res3,stK_e,go_sem,ia_someH,hP]
  exact ⟨_,_,Less.refl _,rfl,by unfold truthI; simp_all,rfl⟩
 clear hX4 hY4 X4 Y4
 refine SX.skip ?_
 try simp only [andThen_normal,andThen_ret,andThen_exit,inBlk_normal,inBlk_ret,inBlk_exit,Nat.reduceEqDiff,if_true,if_false,↓reduceIte]
 refine hK2 _ _ ?_
 try clear hK2 K2
 refine SX.seq_k fun K6 hK6=>?_
 refine SX.region_d [some 2] rfl (fun ops hops=>?_)
 unfold Dsts at hops
 simp (dsimp:=false)(disch:=omega) only [go_sem,ia_someH,hP,hops]
 refine hK6 _ _ ?_
 try clear hK6 K6
 refine SX.ret ?_
 simp only [andThen_normal,andThen_ret,andThen_exit,inBlk_normal,inBlk_ret,inBlk_exit,Nat.reduceEqDiff,if_true,if_false,↓reduceIte,retQ_ret]
 try simp only [res0,res1,res2,res3,stK_e,go_sem,ia_someH,hP]
 exact ⟨_,_,Less.refl _,rfl,by unfold truthI; simp_all,rfl⟩

def IsS (v : Value) : Prop := ∃ A n c,v = .slice A n c
theorem IsS.row {e sz n : Nat} {v : Value} {xs : List Value} {s : Slot} (h : Row e sz v n xs s) : IsS v := by obtain ⟨A,c,rfl,_,_⟩ := Row.form h; exact ⟨_,_,_,rfl⟩
theorem skipped_spec {Γ : Ctx} (hP : Γ.P = Tryz.prog) {L : Hp} {g : GM} {sv pv mv : Value} {b : Bool} (h1 : IsS sv) (h2 : IsS pv) (h3 : IsS mv) :
  SCall Γ 67 #[(.agg (g.cells sv pv mv).toArray),(.bool b)] L (fun v L'=>v = .agg ((skipG g b).2.cells sv pv mv).toArray ∧ L' = L) := by
 obtain ⟨A1,n1,c1,rfl⟩ := h1
 obtain ⟨A2,n2,c2,rfl⟩ := h2
 obtain ⟨A3,n3,c3,rfl⟩ := h3
 refine SCall.enter (n := 11) (resX Γ [.cell 4 27]) (hP ▸ Tryz.func67) rfl rfl (by simp) (resX_ok rfl) ?_
 refine SX.seq_k fun K1 hK1=>?_
 refine SX.region_d [some 2,some 4] rfl (fun ops hops=>?_)
 unfold Dsts at hops
 simp (dsimp:=false)(disch:=omega) only [go_sem,ia_someH,hP,hops]
 intro bg
 try refine stI ?_
 try simp (dsimp:=false)(disch:=omega) only [go_sem,ia_someH,hP,hops]
 intro b4
 try refine stI ?_
 try simp (dsimp:=false)(disch:=omega) only [go_sem,ia_someH,hP,hops]
 refine hK1 _ _ ?_
 try clear hK1 K1
 refine SX.live [1,2,4] (fun T1 hT1=>?_)
 simp only [forall_mem_cons',forall_mem_nil',go_sem,ia_someH,hP] at hT1
 obtain ⟨h1_1,h1_2,h1_4⟩ := hT1
 refine SX.join (fun (ss : Unit) T L'=>T 2 = T1 2 ∧ T 4 = T1 4 ∧ L' = some (b4,.cells #[.int .u8 0,.int .u8 0,.int .u8 0,.int .u8 0,.int .u8 0,.int .u8 0,.int .u8 0,.int .u8 0,.int .u8 0,.int .u8 0,.int .u8 0,.int .u8 0,.int .u8 0,.int .u8 0,.int .u8 0,.int .u8 0,.int .u16 0,.int .u16 0,.slice none 0 0,.int .u8 0,.int .u8 0,.slice none 0 0,.slice none 0 0] 27 (0,0)) :: some (bg,.cells ((skipG g b).2.cells (.slice A1 n1 c1) (.slice A2 n2 c2) (.slice A3 n3 c3)).toArray 27 (0,0)) :: L ∧ (True)) (fun K2 hK2=>?_) ?_
 ·simp only [h1_2,h1_4] at hK2
  refine SX.seq_k fun K3 hK3=>?_
  refine SX.region_d [some 5] rfl (fun ops hops=>?_)
  unfold Dsts at hops
  simp (dsimp:=false)(disch:=omega) only [go_sem,ia_someH,hP,h1_1,h1_2,h1_4,hops]
  refine hK3 _ _ ?_
  try clear hK3 K3
  refine SX.cond_k fun X4 Y4 hX4 hY4=>?_
  simp (dsimp:=false)(disch:=omega) only [go_sem,ia_someH,hP,h1_1,h1_2,h1_4,condVC]
  refine ⟨fun hc5=>hX4 ?_,fun hc5=>hY4 ?_⟩
  ·clear hX4 hY4 X4 Y4
   refine SX.region_d [some 6,some 7,some 8,some 9,none] rfl (fun ops hops=>?_)
   unfold Dsts at hops
   simp (dsimp:=false)(disch:=omega) only [go_sem,ia_someH,hP,h1_1,h1_2,h1_4,hops]
   refine ⟨_,Cell.at 1 rfl (show (GM.cells _ _ _ _)[17]? = _ from rfl),?_⟩
   try refine stI ?_
   try simp (dsimp:=false)(disch:=omega) only [go_sem,ia_someH,hP,h1_1,h1_2,h1_4,hops]
   refine ⟨1,_,_,_,rfl,(by rw [gcells_length]; omega),.inr (by decide),?_⟩
   try refine stI ?_
   try simp (dsimp:=false)(disch:=omega) only [go_sem,ia_someH,hP,h1_1,h1_2,h1_4,hops]
   refine hK2 () _ (_) _ (by exact Less.refl _) ?_
   try dsimp only
   refine ⟨?_,?_,?_,?_⟩
   ·simp (dsimp:=false)(disch:=omega) only [go_sem,ia_someH,hP,h1_1,h1_2,h1_4]
   ·simp (dsimp:=false)(disch:=omega) only [go_sem,ia_someH,hP,h1_1,h1_2,h1_4]
   ·rw [show (skipG g b).2 = { g with PC := IntKind.u16.wrap (g.PC + 2) } from if_pos hc5]; rfl
   trivial
  clear hX4 hY4 X4 Y4
  refine SX.skip ?_
  try simp only [andThen_normal,andThen_ret,andThen_exit,inBlk_normal,inBlk_ret,inBlk_exit,Nat.reduceEqDiff,if_true,if_false,↓reduceIte]
  refine hK2 () _ (_) _ (by exact Less.refl _) ?_
  try dsimp only
  refine ⟨?_,?_,?_,?_⟩
  ·simp (dsimp:=false)(disch:=omega) only [go_sem,ia_someH,hP,h1_1,h1_2,h1_4]
  ·simp (dsimp:=false)(disch:=omega) only [go_sem,ia_someH,hP,h1_1,h1_2,h1_4]
  ·rw [show (skipG g b).2 = g from if_neg (by first | exact hc5 | simpa using hc5)]
  trivial
 intro ss T2 L2 hI
 simp only [h1_2,h1_4] at hI 
 obtain ⟨h2_2,h2_4,hL2,hinv⟩ := hI
 replace hL2 := hL2.symm
 subst hL2
 clear h1_1 h1_2 h1_4 T1
 refine SX.seq_k fun K5 hK5=>?_
 refine SX.region_d [some 10,none] rfl (fun ops hops=>?_)
 unfold Dsts at hops
 simp (dsimp:=false)(disch:=omega) only [go_sem,ia_someH,hP,h2_2,h2_4,hops]
 (iterate 23 refine ⟨_,Cell.at 1 rfl rfl,?_⟩)
 try refine stI ?_
 try simp (dsimp:=false)(disch:=omega) only [go_sem,ia_someH,hP,h2_2,h2_4,hops]
 refine ⟨0,_,_,_,rfl,(by decide),.inr (by decide),?_⟩
 try refine stI ?_
 try simp (dsimp:=false)(disch:=omega) only [go_sem,ia_someH,hP,h2_2,h2_4,hops]
 refine hK5 _ _ ?_
 try clear hK5 K5
 refine SX.ret ?_
 simp only [andThen_normal,andThen_ret,andThen_exit,inBlk_normal,inBlk_ret,inBlk_exit,Nat.reduceEqDiff,if_true,if_false,↓reduceIte,retQ_ret]
 try simp only [res0,res1,res2,res3,stK_e,resX,resK,oneOr,ld_ptr,loadVC,loadN,List.nil_append,List.cons_append,Nat.reduceAdd,Nat.add_zero,Nat.zero_add,Addr.add_lit,Addr.add_zero',add_addS,T.elA_27,T.lay_27,T.szA_27,T.zr_27,Tryz.underlying27,go_sem,ia_someH,hP,h2_2,h2_4]
 exact ⟨_,_,Less.drops (Less.drop _ _),⟨_,Cell.at 0 rfl rfl,_,Cell.at 0 rfl rfl,_,Cell.at 0 rfl rfl,_,Cell.at 0 rfl rfl,_,Cell.at 0 rfl rfl,_,Cell.at 0 rfl rfl,_,Cell.at 0 rfl rfl,_,Cell.at 0 rfl rfl,_,Cell.at 0 rfl rfl,_,Cell.at 0 rfl rfl,_,Cell.at 0 rfl rfl,_,Cell.at 0 rfl rfl,_,Cell.at 0 rfl rfl,_,Cell.at 0 rfl rfl,_,Cell.at 0 rfl rfl,_,Cell.at 0 rfl rfl,_,Cell.at 0 rfl rfl,_,Cell.at 0 rfl rfl,_,Cell.at 0 rfl rfl,_,Cell.at 0 rfl rfl,_,Cell.at 0 rfl rfl,_,Cell.at 0 rfl rfl,_,Cell.at 0 rfl rfl,rfl⟩,rfl,rfl⟩
theorem refAt_spec {Γ : Ctx} (hP : Γ.P = Tryz.prog) {L : Hp} {g : GM} {sv pv mv : Value} {f : Fnt} {fv : Value} {a : Int} (ha : 0 ≤ a ∧ a ≤ 100000) (hm : SlI .u8 (Cell Γ L) mv g.mm) (hf : SlI .u8 (Cell Γ L) fv f.bs) (hml : g.mm.length = 3232) (hfl : f.bs.length ≤ 65536) (hfr : 0 ≤ f.from_ ∧ f.from_ ≤ 65535) :
  SCall Γ 95 #[(.agg (g.cells sv pv mv).toArray),(.agg (f.cells fv).toArray),(.int .i64 a)] L (fun v L'=>v = onePair (atG g f a) ∧ L' = L) := by
 refine SCall.enter (n := 36) (res2 6 7) (hP ▸ Tryz.func95) rfl rfl (by simp) (res2_ok rfl) ?_
 refine SX.seq_k fun K1 hK1=>?_
 refine SX.region_d [some 3,some 4,some 6,some 7] rfl (fun ops hops=>?_)
 unfold Dsts at hops
 simp (dsimp:=false)(disch:=omega) only [go_sem,ia_someH,hP,hops]
 intro bg
 try refine stI ?_
 try simp (dsimp:=false)(disch:=omega) only [go_sem,ia_someH,hP,hops]
 intro bf
 try refine stI ?_
 try simp (dsimp:=false)(disch:=omega) only [go_sem,ia_someH,hP,hops]
 refine hK1 _ _ ?_
 try clear hK1 K1
 refine SX.seq_k fun K2 hK2=>?_
 refine SX.seq_k fun K3 hK3=>?_
 refine SX.region_d [some 9,some 10] rfl (fun ops hops=>?_)
 unfold Dsts at hops
 simp (dsimp:=false)(disch:=omega) only [go_sem,ia_someH,hP,hops]
 repeat' ((first | (refine SCall.mono (inMem_spec hP) ?_; rintro v_ L_ ⟨hv_,hL_⟩; rw [hv_,hL_]; clear hv_ hL_ v_ L_) | refine ⟨_,inMem_spec hP,?_⟩ | refine ⟨_,fun L0 hl0=>inMem_spec hP,?_⟩ | refine And.intro (by omega) ?_ | fail); try refine stI ?_; try simp (dsimp:=false)(disch:=omega) only [go_sem,ia_someH,hP,hops])
 refine hK3 _ _ ?_
 try clear hK3 K3
 refine SX.cond_k fun X4 Y4 hX4 hY4=>?_
 simp (dsimp:=false)(disch:=omega) only [go_sem,ia_someH,hP,condVC]
 refine ⟨fun hc10=>hX4 ?_,fun hc10=>hY4 ?_⟩
 ·clear hX4 hY4 X4 Y4
  refine SX.seq_k fun K5 hK5=>?_
  obtain ⟨A,c,rfl,hc,hA⟩ := id hm
  have hin : 512 ≤ a ∧ a < 3744 := by first | exact hc10 | exact of_decide_eq_true hc10
  have hsub : IntKind.i64.wrap (a - 512) = a - 512 := w64 (by omega)
  obtain ⟨ad,rfl,hcm⟩ := hA (a - 512).toNat _ (getD_some (by omega))
  rw [Nat.mul_one] at hcm
  change Cell Γ _ _ (.int .u8 _) at hcm
  have hba : 0 ≤ a - 512 ∧ a - 512 < (g.mm.length : Int) := by omega
  refine SX.region_d [some 11,some 12,some 13,some 14,some 15,some 16,some 6,some 7] rfl (fun ops hops=>?_)
  unfold Dsts at hops
  simp (dsimp:=false)(disch:=omega) only [go_sem,ia_someH,hP,hops]
  refine ⟨_,Cell.at 1 rfl (show (GM.cells _ _ _ _)[22]? = _ from rfl),?_⟩
  try refine stI ?_
  try simp (dsimp:=false)(disch:=omega) only [go_sem,ia_someH,hP,hops]
  refine ⟨_,Cell.cons _ (Cell.cons _ hcm),?_⟩
  try refine stI ?_
  try simp (dsimp:=false)(disch:=omega) only [go_sem,ia_someH,hP,hops]
  refine hK5 _ _ ?_
  try clear hK5 K5
  refine SX.ret ?_
  simp only [andThen_normal,andThen_ret,andThen_exit,inBlk_normal,inBlk_ret,inBlk_exit,Nat.reduceEqDiff,if_true,if_false,↓reduceIte,retQ_ret]
  try simp only [res0,res1,res2,res3,stK_e,go_sem,ia_someH,hP]
  exact ⟨_,_,Less.drops (Less.drop _ _),rfl,by unfold atG; rw [if_pos hin]; rfl,rfl⟩
 clear hX4 hY4 X4 Y4
 refine SX.skip ?_
 try simp only [andThen_normal,andThen_ret,andThen_exit,inBlk_normal,inBlk_ret,inBlk_exit,Nat.reduceEqDiff,if_true,if_false,↓reduceIte]
 refine hK2 _ _ ?_
 try clear hK2 K2
 refine SX.seq_k fun K6 hK6=>?_
 have hnin : ¬ (512 ≤ a ∧ a < 3744) := by first | exact hc10 | exact of_decide_eq_false hc10
 obtain ⟨F,fc,rfl,hfc,hfA⟩ := id hf
 refine SX.region_d [some 17,some 18,some 19,some 20,some 21,some 8] rfl (fun ops hops=>?_)
 unfold Dsts at hops
 simp (dsimp:=false)(disch:=omega) only [go_sem,ia_someH,hP,hops]
 refine ⟨_,Cell.at 0 rfl (show (Fnt.cells _ _)[16]? = _ from rfl),?_⟩
 try refine stI ?_
 try simp (dsimp:=false)(disch:=omega) only [go_sem,ia_someH,hP,hops]
 refine hK6 _ _ ?_
 try clear hK6 K6
 refine SX.live [4,8] (fun T1 hT1=>?_)
 simp only [forall_mem_cons',forall_mem_nil',go_sem,ia_someH,hP] at hT1
 obtain ⟨h1_4,h1_8⟩ := hT1
 refine SX.seq_k fun K7 hK7=>?_
 refine SX.seq_k fun K8 hK8=>?_
 refine SX.region_xd [some 22,some 23,some 24,some 25,some 26,some 27,some 28,some 29,some 30] rfl (fun ops hops=>?_)
 unfold Dsts at hops
 refine RX.live [4,8] (fun T2 hT2=>?_)
 simp only [forall_mem_cons',forall_mem_nil',go_sem,ia_someH,hP,h1_4,h1_8] at hT2
 obtain ⟨h2_4,h2_8⟩ := hT2
 clear h1_4 h1_8 T1
 refine RX.join 9 (fun (ss : Unit) T L'=>T 30 = .bool (decide (0 ≤ a - f.from_ ∧ a - f.from_ < f.bs.length)) ∧ T 4 = T2 4 ∧ T 8 = T2 8 ∧ L' = some (bf,.cells (f.cells (.slice F f.bs.length fc)).toArray 30 (0,0)) :: some (bg,.cells (g.cells sv pv mv).toArray 27 (0,0)) :: L ∧ (True)) (fun K9 hK9=>?_) ?_
 ·simp only [h2_4,h2_8] at hK9
  simp (dsimp:=false)(disch:=omega) only [go_sem,ia_someH,hP,h2_4,h2_8,hops]
  repeat' (first | refine iteB (fun hg=>?_) (fun hg=>?_) | refine iteI (fun hg=>?_) (fun hg=>?_) | ((first | refine ⟨_,Cell.at 0 rfl (show (Fnt.cells _ _)[17]? = _ from rfl),?_⟩ | refine And.intro (by omega) ?_ | refine ⟨_,Cell.at 0 rfl rfl,?_⟩ | refine ⟨_,Cell.at 1 rfl rfl,?_⟩ | fail); try refine stI ?_; try simp (dsimp:=false)(disch:=omega) only [go_sem,ia_someH,hP,h2_4,h2_8,hops]) | fail)
  all_goals
   refine hK9 () _ (some (bf,.cells (f.cells (.slice F f.bs.length fc)).toArray 30 (0,0)) :: some (bg,.cells (g.cells sv pv mv).toArray 27 (0,0)) :: L) _ (by first | exact Less.refl _ | exact Less.drop _ _ | exact Less.drops (Less.drop _ _) | exact Less.drops (Less.drops (Less.drop _ _)) | exact Less.drops (Less.drops (Less.drops (Less.drop _ _))) | exact Less.drops (Less.drops (Less.drops (Less.drops (Less.drop _ _))))) ?_
   try dsimp only
   refine ⟨?_,?_,?_,?_,?_⟩
   ·simp (dsimp:=false)(disch:=omega) only [go_sem,ia_someH,hP,h2_4,h2_8]
    first | done | exact congrArg _ (decide_eq_decide.2 (by omega)) | exact congrArg _ (decide_eq_true (by omega)).symm | exact congrArg _ (decide_eq_false (by omega)).symm
   ·simp (dsimp:=false)(disch:=omega) only [go_sem,ia_someH,hP,h2_4,h2_8]
   ·simp (dsimp:=false)(disch:=omega) only [go_sem,ia_someH,hP,h2_4,h2_8]
   ·rfl
   trivial
 intro ss T3 L3 hI
 simp only [h2_4,h2_8] at hI 
 obtain ⟨h3_30,h3_4,h3_8,hL3,hinv⟩ := hI
 replace hL3 := hL3.symm
 subst hL3
 clear h2_4 h2_8 T2
 refine RX.done ?_
 simp (dsimp:=false)(disch:=omega) only [go_sem,ia_someH,hP,h3_30,h3_4,h3_8,hops]
 refine hK8 _ _ ?_
 try clear hK8 K8
 refine SX.cond_k fun X10 Y10 hX10 hY10=>?_
 simp (dsimp:=false)(disch:=omega) only [go_sem,ia_someH,hP,h3_30,h3_4,h3_8,condVC]
 refine ⟨fun hc30=>hX10 ?_,fun hc30=>hY10 ?_⟩
 ·clear hX10 hY10 X10 Y10
  refine SX.seq_k fun K11 hK11=>?_
  have hin : 0 ≤ a - f.from_ ∧ a - f.from_ < f.bs.length := by first | exact hc30 | exact of_decide_eq_true hc30
  obtain ⟨ad,rfl,hcf⟩ := hfA (a - f.from_).toNat _ (getD_some (by omega))
  rw [Nat.mul_one] at hcf
  change Cell Γ _ _ (.int .u8 _) at hcf
  refine SX.region_d [some 31,some 32,some 33,some 34,some 35,some 6,some 7] rfl (fun ops hops=>?_)
  unfold Dsts at hops
  simp (dsimp:=false)(disch:=omega) only [go_sem,ia_someH,hP,h3_30,h3_4,h3_8,hops]
  refine ⟨_,Cell.at 0 rfl (show (Fnt.cells _ _)[17]? = _ from rfl),?_⟩
  try refine stI ?_
  try simp (dsimp:=false)(disch:=omega) only [go_sem,ia_someH,hP,h3_30,h3_4,h3_8,hops]
  refine ⟨_,Cell.cons _ (Cell.cons _ hcf),?_⟩
  try refine stI ?_
  try simp (dsimp:=false)(disch:=omega) only [go_sem,ia_someH,hP,h3_30,h3_4,h3_8,hops]
  refine hK11 _ _ ?_
  try clear hK11 K11
  refine SX.ret ?_
  simp only [andThen_normal,andThen_ret,andThen_exit,inBlk_normal,inBlk_ret,inBlk_exit,Nat.reduceEqDiff,if_true,if_false,↓reduceIte,retQ_ret]
  try simp only [res0,res1,res2,res3,stK_e,go_sem,ia_someH,hP,h3_30,h3_4,h3_8]
  exact ⟨_,_,Less.drops (Less.drop _ _),rfl,by unfold atG; rw [if_neg hnin,if_pos hin]; rfl,rfl⟩
 clear hX10 hY10 X10 Y10
 refine SX.skip ?_
 try simp only [andThen_normal,andThen_ret,andThen_exit,inBlk_normal,inBlk_ret,inBlk_exit,Nat.reduceEqDiff,if_true,if_false,↓reduceIte]
 refine hK7 _ _ ?_
 try clear hK7 K7
 refine SX.seq_k fun K12 hK12=>?_
 refine SX.region_d [some 6,some 7] rfl (fun ops hops=>?_)
 unfold Dsts at hops
 simp (dsimp:=false)(disch:=omega) only [go_sem,ia_someH,hP,h3_30,h3_4,h3_8,hops]
 refine hK12 _ _ ?_
 try clear hK12 K12
 refine SX.ret ?_
 simp only [andThen_normal,andThen_ret,andThen_exit,inBlk_normal,inBlk_ret,inBlk_exit,Nat.reduceEqDiff,if_true,if_false,↓reduceIte,retQ_ret]
 try simp only [res0,res1,res2,res3,stK_e,go_sem,ia_someH,hP,h3_30,h3_4,h3_8]
 exact ⟨_,_,Less.drops (Less.drop _ _),rfl,by unfold atG; rw [if_neg hnin,if_neg (by first | exact hc30 | exact of_decide_eq_false hc30)]; rfl,rfl⟩

end Go.Proofs.YtgioegdjeodpiaaGreat
namespace Go.Proofs.YtgioegdjeodpiaaGreat
open Go.RowKit Go.SX
open Go.SX renaming ia_someH → Φa
set_option maxHeartbeats 1000000
set_option maxRecDepth 100000
theorem lessKeep1 {a b c : Slot} {L : Hp} : Less (a :: b :: c :: L) (a :: L) := Less.sublist (.cons_cons _ (.cons _ (.cons _ (List.Sublist.refl _))))
theorem refRead_spec {Γ : Ctx} (hP : Γ.P = Tryz.prog) {L : Hp} {g : GM} {sv pv mv : Value} {f : Fnt} {fv : Value} {n : Nat} (hn : n ≤ 16) (hg : OkG g) (hm : SlI .u8 (Cell Γ L) mv g.mm) (hf : SlI .u8 (Cell Γ L) fv f.bs) (hml : g.mm.length = 3232) (hfl : f.bs.length ≤ 65536) (hfr : 0 ≤ f.from_ ∧ f.from_ ≤ 65535) :
  SCall Γ 87 #[(.agg (g.cells sv pv mv).toArray),(.agg (f.cells fv).toArray),(.int .i64 g.I),(.int .i64 (n : Int))] L (rowR L (rowG g f n)) := by
 refine SCall.enter (n := 35) (res2 8 9) (hP ▸ Tryz.func87) rfl rfl (by simp) (res2_ok rfl) ?_
 refine SX.seq_k fun K1 hK1=>?_
 refine SX.region_d [some 4,some 5,some 8,some 9] rfl (fun ops hops=>?_)
 unfold Dsts at hops
 simp (dsimp:=false)(disch:=omega) only [go_sem,Φa,hP,hops]
 intro bg
 try refine stI ?_
 try simp (dsimp:=false)(disch:=omega) only [go_sem,Φa,hP,hops]
 intro bf
 try refine stI ?_
 try simp (dsimp:=false)(disch:=omega) only [go_sem,Φa,hP,hops]
 refine hK1 _ _ ?_
 try clear hK1 K1
 refine SX.seq_k fun K2 hK2=>?_
 refine SX.less (Less.none _) ?_
 refine SX.region_d [some 10] rfl (fun ops hops=>?_)
 unfold Dsts at hops
 simp (dsimp:=false)(disch:=omega) only [go_sem,Φa,hP,hops]
 refine hK2 _ _ ?_
 try clear hK2 K2
 refine SX.seq_k fun K3 hK3=>?_
 refine SX.seq_k fun K4 hK4=>?_
 refine SX.region_d [some 11] rfl (fun ops hops=>?_)
 unfold Dsts at hops
 simp (dsimp:=false)(disch:=omega) only [go_sem,Φa,hP,hops]
 refine hK4 _ _ ?_
 try clear hK4 K4
 refine SX.block ?_
 refine SX.live [2,3,4,5,10,11] (fun T1 hT1=>?_)
 simp only [forall_mem_cons',forall_mem_nil',go_sem,Φa,hP] at hT1
 obtain ⟨h1_2,h1_3,h1_4,h1_5,h1_10,h1_11⟩ := hT1
 refine SX.loop_k (fun (ss : (Nat) × (Value) × (Slot) × (List Int)) T L'=>(fun (k : Nat) (v1 : Value) (s1 : Slot) (l : List Int)=>T 10 = v1 ∧ T 11 = .int .i64 (k : Int) ∧ T 2 = T1 2 ∧ T 3 = T1 3 ∧ T 4 = T1 4 ∧ T 5 = T1 5 ∧ L' = s1 :: some (bf,.cells (f.cells fv).toArray 30 (0,0)) :: some (bg,.cells (g.cells sv pv mv).toArray 27 (0,0)) :: L ∧ (k ≤ n ∧ rowG g f k = some l ∧ RowI .u8 5 v1 l s1)) (ss.1) (ss.2.1) (ss.2.2.1) (ss.2.2.2)) (fun (ss : (Nat) × (Value) × (Slot) × (List Int))=>(fun (k : Nat) (v1 : Value) (s1 : Slot) (l : List Int)=>n - k) (ss.1) (ss.2.1) (ss.2.2.1) (ss.2.2.2)) (0,.slice none 0 0,none,[]) ?_ ?_
 ·try dsimp only
  refine ⟨?_,?_,?_,?_,?_,?_,?_,?_⟩
  ·first | exact h1_10 | (rw [h1_10]; rfl) | (rw [h1_10]; simp; done)
  ·first | exact h1_11 | (rw [h1_11]; rfl) | (rw [h1_11]; simp; done)
  ·rfl
  ·rfl
  ·rfl
  ·rfl
  ·rfl
  exact ⟨Nat.zero_le _,rfl,RowI.nil _ _⟩
 intro ss T2 L2 hI K5 hK5
 obtain ⟨k,v1,s1,l⟩ := ss
 try dsimp only at hI hK5
 simp only [h1_2,h1_3,h1_4,h1_5] at hI hK5
 obtain ⟨h2_10,h2_11,h2_2,h2_3,h2_4,h2_5,hL2,⟨hk,hrg,hrow⟩⟩ := hI
 replace hL2 := hL2.symm
 subst hL2
 clear h1_2 h1_3 h1_4 h1_5 h1_10 h1_11 T1
 refine SX.seq_k fun K6 hK6=>?_
 refine SX.seq_k fun K7 hK7=>?_
 refine SX.region_d [some 14,some 15,some 16] rfl (fun ops hops=>?_)
 unfold Dsts at hops
 simp (dsimp:=false)(disch:=omega) only [go_sem,Φa,hP,h2_10,h2_11,h2_2,h2_3,h2_4,h2_5,hops]
 repeat' ((first | refine And.intro (by omega) ?_ | fail); try refine stI ?_; try simp (dsimp:=false)(disch:=omega) only [go_sem,Φa,hP,h2_10,h2_11,h2_2,h2_3,h2_4,h2_5,hops])
 refine hK7 _ _ ?_
 try clear hK7 K7
 refine SX.cond_k fun X8 Y8 hX8 hY8=>?_
 simp (dsimp:=false)(disch:=omega) only [go_sem,Φa,hP,h2_10,h2_11,h2_2,h2_3,h2_4,h2_5,condVC]
 refine ⟨fun hc16=>hX8 ?_,fun hc16=>hY8 ?_⟩
 ·clear hX8 hY8 X8 Y8
  refine SX.skip ?_
  try simp only [andThen_normal,andThen_ret,andThen_exit,inBlk_normal,inBlk_ret,inBlk_exit,Nat.reduceEqDiff,if_true,if_false,↓reduceIte]
  refine hK6 _ _ ?_
  try clear hK6 K6
  refine SX.seq_k fun K9 hK9=>?_
  refine SX.block ?_
  refine SX.seq_k fun K10 hK10=>?_
  have hIb := hg.I
  refine SX.region_d [some 20,some 21,some 22,some 23,some 24,some 25,some 19,some 26,some 27,some 12,some 13] rfl (fun ops hops=>?_)
  unfold Dsts at hops
  simp (dsimp:=false)(disch:=omega) only [go_sem,Φa,hP,h2_10,h2_11,h2_2,h2_3,h2_4,h2_5,hops,Option.getD_none,Option.getD_some,Option.isSome_none,Option.isSome_some]
  (iterate 23 refine ⟨_,Cell.at 2 rfl rfl,?_⟩)
  try refine stI ?_
  try simp (dsimp:=false)(disch:=omega) only [go_sem,Φa,hP,h2_10,h2_11,h2_2,h2_3,h2_4,h2_5,hops,Option.getD_none,Option.getD_some,Option.isSome_none,Option.isSome_some]
  (iterate 18 refine ⟨_,Cell.at 1 rfl rfl,?_⟩)
  try refine stI ?_
  try simp (dsimp:=false)(disch:=omega) only [go_sem,Φa,hP,h2_10,h2_11,h2_2,h2_3,h2_4,h2_5,hops,Option.getD_none,Option.getD_some,Option.isSome_none,Option.isSome_some]
  refine SCall.mono (refAt_spec hP (by omega) (SlI.cons _ (SlI.cons _ (SlI.cons _ hm))) (SlI.cons _ (SlI.cons _ (SlI.cons _ hf))) hml hfl hfr) ?_
  rintro v_ L_ ⟨hv_,hL_⟩
  rw [hv_,hL_]
  clear hv_ hL_ v_ L_
  unfold onePair
  rcases hat : atG g f (g.I + (k : Int)) with _ | b
  ·skip
   try refine stI ?_
   try refine stI ?_
   try simp (dsimp:=false)(disch:=omega) only [go_sem,Φa,hP,h2_10,h2_11,h2_2,h2_3,h2_4,h2_5,hops,Option.getD_none,Option.getD_some,Option.isSome_none,Option.isSome_some]
   refine hK10 _ _ ?_
   try clear hK10 K10
   refine SX.live [2,3,4,5,10,11,12,13] (fun T3 hT3=>?_)
   simp only [forall_mem_cons',forall_mem_nil',go_sem,Φa,hP,h2_10,h2_11,h2_2,h2_3,h2_4,h2_5] at hT3
   obtain ⟨h3_2,h3_3,h3_4,h3_5,h3_10,h3_11,h3_12,h3_13⟩ := hT3
   clear h2_10 h2_11 h2_2 h2_3 h2_4 h2_5 T2
   refine SX.seq_k fun K11 hK11=>?_
   refine SX.seq_k fun K12 hK12=>?_
   refine SX.region_d [some 28,some 29] rfl (fun ops hops=>?_)
   unfold Dsts at hops
   simp (dsimp:=false)(disch:=omega) only [go_sem,Φa,hP,h3_2,h3_3,h3_4,h3_5,h3_10,h3_11,h3_12,h3_13,hops]
   refine hK12 _ _ ?_
   try clear hK12 K12
   refine SX.cond_k fun X13 Y13 hX13 hY13=>?_
   simp (dsimp:=false)(disch:=omega) only [go_sem,Φa,hP,h3_2,h3_3,h3_4,h3_5,h3_10,h3_11,h3_12,h3_13,condVC]
   refine hX13 ?_
   clear hX13 hY13 X13 Y13
   refine SX.seq_k fun K14 hK14=>?_
   refine SX.region_d [some 8,some 9] rfl (fun ops hops=>?_)
   unfold Dsts at hops
   simp (dsimp:=false)(disch:=omega) only [go_sem,Φa,hP,h3_2,h3_3,h3_4,h3_5,h3_10,h3_11,h3_12,h3_13,hops]
   refine hK14 _ _ ?_
   try clear hK14 K14
   refine SX.ret ?_
   simp only [andThen_normal,andThen_ret,andThen_exit,inBlk_normal,inBlk_ret,inBlk_exit,Nat.reduceEqDiff,if_true,if_false,↓reduceIte,retQ_ret]
   try simp only [res0,res1,res2,res3,stK_e,go_sem,Φa,hP,h3_2,h3_3,h3_4,h3_5,h3_10,h3_11,h3_12,h3_13]
   refine ⟨_,_,Less.drops (Less.drops (Less.drop _ _)),rfl,?_⟩
   unfold rowR
   rw [rowG_none (by rw [rowG,hrg]; simp only [hat]; rfl : rowG g f (k + 1) = none) n (by omega)]
   exact ⟨rfl,rfl⟩
  skip
  try refine stI ?_
  try refine stI ?_
  try simp (dsimp:=false)(disch:=omega) only [go_sem,Φa,hP,h2_10,h2_11,h2_2,h2_3,h2_4,h2_5,hops,Option.getD_none,Option.getD_some,Option.isSome_none,Option.isSome_some]
  refine hK10 _ _ ?_
  try clear hK10 K10
  refine SX.live [2,3,4,5,10,11,12,13] (fun T4 hT4=>?_)
  simp only [forall_mem_cons',forall_mem_nil',go_sem,Φa,hP,h2_10,h2_11,h2_2,h2_3,h2_4,h2_5] at hT4
  obtain ⟨h4_2,h4_3,h4_4,h4_5,h4_10,h4_11,h4_12,h4_13⟩ := hT4
  clear h2_10 h2_11 h2_2 h2_3 h2_4 h2_5 T2
  refine SX.seq_k fun K15 hK15=>?_
  refine SX.seq_k fun K16 hK16=>?_
  refine SX.region_d [some 28,some 29] rfl (fun ops hops=>?_)
  unfold Dsts at hops
  simp (dsimp:=false)(disch:=omega) only [go_sem,Φa,hP,h4_2,h4_3,h4_4,h4_5,h4_10,h4_11,h4_12,h4_13,hops]
  refine hK16 _ _ ?_
  try clear hK16 K16
  refine SX.cond_k fun X17 Y17 hX17 hY17=>?_
  simp (dsimp:=false)(disch:=omega) only [go_sem,Φa,hP,h4_2,h4_3,h4_4,h4_5,h4_10,h4_11,h4_12,h4_13,condVC]
  refine hY17 ?_
  clear hX17 hY17 X17 Y17
  refine SX.skip ?_
  try simp only [andThen_normal,andThen_ret,andThen_exit,inBlk_normal,inBlk_ret,inBlk_exit,Nat.reduceEqDiff,if_true,if_false,↓reduceIte]
  refine hK15 _ _ ?_
  try clear hK15 K15
  have hll := rowG_length hrg
  refine SX.region_d [some 30,some 31,some 32,some 33,some 10] rfl (fun ops hops=>?_)
  unfold Dsts at hops
  simp (dsimp:=false)(disch:=omega) only [go_sem,Φa,hP,h4_2,h4_3,h4_4,h4_5,h4_10,h4_11,h4_12,h4_13,hops]
  intro bb
  try refine stI ?_
  try simp (dsimp:=false)(disch:=omega) only [go_sem,Φa,hP,h4_2,h4_3,h4_4,h4_5,h4_10,h4_11,h4_12,h4_13,hops]
  refine YAppend.int1 (i := 0) (hP ▸ T.elS_25) (hP ▸ T.zr_5) rfl rfl hrow (by omega) (by decide) (fun v2 s2 hrow2=>?_)
  try refine stI ?_
  try simp (dsimp:=false)(disch:=omega) only [go_sem,Φa,hP,h4_2,h4_3,h4_4,h4_5,h4_10,h4_11,h4_12,h4_13,hops]
  refine hK9 _ _ ?_
  try clear hK9 K9
  refine SX.region_d [some 17,some 18,some 11] rfl (fun ops hops=>?_)
  unfold Dsts at hops
  simp (dsimp:=false)(disch:=omega) only [go_sem,Φa,hP,h4_2,h4_3,h4_4,h4_5,h4_10,h4_11,h4_12,h4_13,hops]
  repeat' ((first | refine And.intro (by omega) ?_ | fail); try refine stI ?_; try simp (dsimp:=false)(disch:=omega) only [go_sem,Φa,hP,h4_2,h4_3,h4_4,h4_5,h4_10,h4_11,h4_12,h4_13,hops])
  refine hK5 (k + 1,v2,s2,l ++ [b]) _ (s2 :: some (bf,.cells (f.cells fv).toArray 30 (0,0)) :: some (bg,.cells (g.cells sv pv mv).toArray 27 (0,0)) :: L) _ (by exact Less.drop _ _) ?_ ?_
  ·try dsimp only
   refine ⟨?_,?_,?_,?_,?_,?_,?_,?_⟩
   ·simp (dsimp:=false)(disch:=omega) only [go_sem,Φa,hP,h4_2,h4_3,h4_4,h4_5,h4_10,h4_11,h4_12,h4_13]
    first | done | rfl | skip
   ·simp (dsimp:=false)(disch:=omega) only [go_sem,Φa,hP,h4_2,h4_3,h4_4,h4_5,h4_10,h4_11,h4_12,h4_13]
    rfl
   ·simp (dsimp:=false)(disch:=omega) only [go_sem,Φa,hP,h4_2,h4_3,h4_4,h4_5,h4_10,h4_11,h4_12,h4_13]
   ·simp (dsimp:=false)(disch:=omega) only [go_sem,Φa,hP,h4_2,h4_3,h4_4,h4_5,h4_10,h4_11,h4_12,h4_13]
   ·simp (dsimp:=false)(disch:=omega) only [go_sem,Φa,hP,h4_2,h4_3,h4_4,h4_5,h4_10,h4_11,h4_12,h4_13]
   ·simp (dsimp:=false)(disch:=omega) only [go_sem,Φa,hP,h4_2,h4_3,h4_4,h4_5,h4_10,h4_11,h4_12,h4_13]
   ·rfl
   exact ⟨by omega,by rw [rowG,hrg]; simp only [hat,Option.map_some],hrow2⟩
  (try dsimp only); omega
 clear hX8 hY8 X8 Y8
 refine SX.exit ?_
 try simp only [andThen_normal,andThen_ret,andThen_exit,inBlk_normal,inBlk_ret,inBlk_exit,Nat.reduceEqDiff,if_true,if_false,↓reduceIte]
 refine hK3 _ _ ?_
 try clear hK3 K3
 refine SX.seq_k fun K18 hK18=>?_
 refine SX.region_d [some 34,some 8,some 9] rfl (fun ops hops=>?_)
 unfold Dsts at hops
 simp (dsimp:=false)(disch:=omega) only [go_sem,Φa,hP,h2_10,h2_11,h2_2,h2_3,h2_4,h2_5,hops]
 refine hK18 _ _ ?_
 try clear hK18 K18
 refine SX.ret ?_
 simp only [andThen_normal,andThen_ret,andThen_exit,inBlk_normal,inBlk_ret,inBlk_exit,Nat.reduceEqDiff,if_true,if_false,↓reduceIte,retQ_ret]
 try simp only [res0,res1,res2,res3,stK_e,go_sem,Φa,hP,h2_10,h2_11,h2_2,h2_3,h2_4,h2_5]
 obtain rfl : k = n := by omega
 refine ⟨_,_,lessKeep1,rfl,?_⟩
 unfold rowR
 rw [hrg]
 exact ⟨_,_,rfl,rfl,hrow⟩

theorem splice_zero (l : List Int) (i : Nat) (bs : List Int) : spliceL l i (bs.take 0) = l := by
 unfold spliceL
 simp
theorem splice_succ {l : List Int} {i k : Nat} {bs : List Int} (hk : k < bs.length) (hl : i + bs.length ≤ l.length) : (spliceL l i (bs.take k)).set (i + k) (bs.getD k 0) = spliceL l i (bs.take (k + 1)) := by
 have h1 : (bs.take k).length = k := by rw [List.length_take]; omega
 have h2 : (l.take i ++ bs.take k).length = i + k := by rw [List.length_append,List.length_take,h1]; omega
 have h3 : (bs.take (k + 1)).length = k + 1 := by rw [List.length_take]; omega
 unfold spliceL
 rw [List.set_append_right _ _ (by omega),h2,Nat.sub_self,h1,h3,List.drop_eq_getElem_cons (by omega),List.set_cons_zero,List.take_add_one,getD_some hk,← List.append_assoc,show i + (k + 1) = i + k + 1 from rfl]
 simp
def wroteR (g : GM) (sv pv mv : Value) (bs : List Int) (i : Nat) (H : Hp) (v : Value) (L' : Hp) : Prop := match layG g bs with
 | some g'=>∃ q,v = .tuple #[.agg (g'.cells sv pv mv).toArray,.bool true] ∧ L' = H.set i q ∧ RowI .u8 5 mv g'.mm q
 | none=>v = .tuple #[.agg (g.cells sv pv mv).toArray,.bool false] ∧ L' = H
theorem layG_off {g : GM} {bs : List Int} {k : Nat} (hk : k < bs.length) (h : ¬ (512 ≤ g.I + (k : Int) ∧ g.I + (k : Int) < 3744)) : layG g bs = none := by
 unfold layG
 rw [if_neg]
 intro hh
 apply h
 omega
theorem layG_on {g : GM} {bs : List Int} (h1 : 1 ≤ bs.length) (h : ∀ k,k < bs.length → 512 ≤ g.I + (k : Int) ∧ g.I + (k : Int) < 3744) : layG g bs = some { g with mm := spliceL g.mm (g.I - 512).toNat bs } := by
 unfold layG
 rw [if_pos]
 have h2 := h 0 (by omega)
 have h3 := h (bs.length - 1) (by omega)
 omega
theorem refWrite_spec {Γ : Ctx} (hP : Γ.P = Tryz.prog) {g : GM} {sv pv mv : Value} {bs : List Int} {bv : Value} {H : Hp} {i : Nat} {q : Slot} (h1 : IsS sv) (h2 : IsS pv) (hg : OkG g) (hml : g.mm.length = 3232) (hi : H[i]? = some q) (hrm : RowI .u8 5 mv g.mm q) (hb : SlI .u8 (Cell Γ (H.set i none)) bv bs) (hbB : Byte bs) (hb1 : 1 ≤ bs.length) (hb2 : bs.length ≤ 100) :
  SCall Γ 89 #[(.agg (g.cells sv pv mv).toArray),(.int .i64 g.I),bv] (H) (wroteR g sv pv mv bs i H) := by
 obtain ⟨A1,n1,c1,rfl⟩ := h1
 obtain ⟨A2,n2,c2,rfl⟩ := h2
 obtain ⟨mr,mcap,mj,rfl,rfl,hmc,hmj⟩ := RowI.form2 hrm (by omega)
 obtain ⟨B,bc,rfl,hbc,hbA⟩ := id hb
 refine SCall.enter (n := 40) (resX Γ [.cell 6 27,.tmp 7]) (hP ▸ Tryz.func89) rfl rfl (by simp) (resX_ok rfl) ?_
 refine SX.seq_k fun K1 hK1=>?_
 refine SX.region_d [some 3,some 6,some 7] rfl (fun ops hops=>?_)
 unfold Dsts at hops
 simp (dsimp:=false)(disch:=omega) only [go_sem,Φa,hP,hops]
 intro bg
 try refine stI ?_
 try simp (dsimp:=false)(disch:=omega) only [go_sem,Φa,hP,hops]
 intro b6
 try refine stI ?_
 try simp (dsimp:=false)(disch:=omega) only [go_sem,Φa,hP,hops]
 refine hK1 _ _ ?_
 try clear hK1 K1
 refine SX.seq_k fun K2 hK2=>?_
 refine SX.seq_k fun K3 hK3=>?_
 have hIb := hg.I
 refine SX.region_d [some 8] rfl (fun ops hops=>?_)
 unfold Dsts at hops
 simp (dsimp:=false)(disch:=omega) only [go_sem,Φa,hP,hops]
 refine hK3 _ _ ?_
 try clear hK3 K3
 refine SX.block ?_
 refine SX.live [1,2,3,6,8] (fun T1 hT1=>?_)
 simp only [forall_mem_cons',forall_mem_nil',go_sem,Φa,hP] at hT1
 obtain ⟨h1_1,h1_2,h1_3,h1_6,h1_8⟩ := hT1
 refine SX.loop_k (fun (ss : (Nat)) T L'=>(fun (k : Nat)=>T 8 = .int .i64 (k : Int) ∧ T 1 = T1 1 ∧ T 2 = T1 2 ∧ T 3 = T1 3 ∧ T 6 = T1 6 ∧ L' = some (b6,.cells #[.int .u8 0,.int .u8 0,.int .u8 0,.int .u8 0,.int .u8 0,.int .u8 0,.int .u8 0,.int .u8 0,.int .u8 0,.int .u8 0,.int .u8 0,.int .u8 0,.int .u8 0,.int .u8 0,.int .u8 0,.int .u8 0,.int .u16 0,.int .u16 0,.slice none 0 0,.int .u8 0,.int .u8 0,.slice none 0 0,.slice none 0 0] 27 (0,0)) :: some (bg,.cells (g.cells (.slice A1 n1 c1) (.slice A2 n2 c2) (.slice (some ⟨mr,0,none⟩) g.mm.length mcap)).toArray 27 (0,0)) :: H ∧ (k ≤ bs.length ∧ ∀ j,j < k → 512 ≤ g.I + (j : Int) ∧ g.I + (j : Int) < 3744)) (ss)) (fun (ss : (Nat))=>(fun (k : Nat)=>bs.length - k) (ss)) 0 ?_ ?_
 ·try dsimp only
  refine ⟨?_,?_,?_,?_,?_,?_,?_⟩
  ·first | exact h1_8 | (rw [h1_8]; rfl) | (rw [h1_8]; simp; done)
  ·rfl
  ·rfl
  ·rfl
  ·rfl
  ·rfl
  exact ⟨Nat.zero_le _,fun j hj=>absurd hj (Nat.not_lt_zero _)⟩
 intro k T2 L2 hI K4 hK4
 try dsimp only at hI hK4
 simp only [h1_1,h1_2,h1_3,h1_6] at hI hK4
 obtain ⟨h2_8,h2_1,h2_2,h2_3,h2_6,hL2,⟨hk,hin⟩⟩ := hI
 replace hL2 := hL2.symm
 subst hL2
 clear h1_1 h1_2 h1_3 h1_6 h1_8 T1
 refine SX.seq_k fun K5 hK5=>?_
 refine SX.seq_k fun K6 hK6=>?_
 refine SX.region_d [some 10,some 11,some 12,some 13] rfl (fun ops hops=>?_)
 unfold Dsts at hops
 simp (dsimp:=false)(disch:=omega) only [go_sem,Φa,hP,h2_8,h2_1,h2_2,h2_3,h2_6,hops]
 repeat' ((first | (refine SCall.mono (inMem_spec hP) ?_; rintro v_ L_ ⟨hv_,hL_⟩; rw [hv_,hL_]; clear hv_ hL_ v_ L_) | refine ⟨_,inMem_spec hP,?_⟩ | refine ⟨_,fun L0 hl0=>inMem_spec hP,?_⟩ | refine And.intro (by omega) ?_ | fail); try refine stI ?_; try simp (dsimp:=false)(disch:=omega) only [go_sem,Φa,hP,h2_8,h2_1,h2_2,h2_3,h2_6,hops])
 refine hK6 _ _ ?_
 try clear hK6 K6
 refine SX.cond_k fun X7 Y7 hX7 hY7=>?_
 simp (dsimp:=false)(disch:=omega) only [go_sem,Φa,hP,h2_8,h2_1,h2_2,h2_3,h2_6,condVC]
 refine ⟨fun hc13=>hX7 ?_,fun hc13=>hY7 ?_⟩
 ·clear hX7 hY7 X7 Y7
  refine SX.skip ?_
  try simp only [andThen_normal,andThen_ret,andThen_exit,inBlk_normal,inBlk_ret,inBlk_exit,Nat.reduceEqDiff,if_true,if_false,↓reduceIte]
  refine hK5 _ _ ?_
  try clear hK5 K5
  refine SX.seq_k fun K8 hK8=>?_
  refine SX.block ?_
  refine SX.seq_k fun K9 hK9=>?_
  refine SX.region_d [some 16,some 17,some 18,some 19,some 20] rfl (fun ops hops=>?_)
  unfold Dsts at hops
  simp (dsimp:=false)(disch:=omega) only [go_sem,Φa,hP,h2_8,h2_1,h2_2,h2_3,h2_6,hops]
  repeat' ((first | (refine SCall.mono (inMem_spec hP) ?_; rintro v_ L_ ⟨hv_,hL_⟩; rw [hv_,hL_]; clear hv_ hL_ v_ L_) | refine ⟨_,inMem_spec hP,?_⟩ | refine ⟨_,fun L0 hl0=>inMem_spec hP,?_⟩ | refine And.intro (by omega) ?_ | fail); try refine stI ?_; try simp (dsimp:=false)(disch:=omega) only [go_sem,Φa,hP,h2_8,h2_1,h2_2,h2_3,h2_6,hops])
  refine hK9 _ _ ?_
  try clear hK9 K9
  refine SX.live [1,2,3,6,8,20] (fun T3 hT3=>?_)
  simp only [forall_mem_cons',forall_mem_nil',go_sem,Φa,hP,h2_8,h2_1,h2_2,h2_3,h2_6] at hT3
  obtain ⟨h3_1,h3_2,h3_3,h3_6,h3_8,h3_20⟩ := hT3
  clear h2_8 h2_1 h2_2 h2_3 h2_6 T2
  refine SX.cond_k fun X10 Y10 hX10 hY10=>?_
  simp (dsimp:=false)(disch:=omega) only [go_sem,Φa,hP,h3_1,h3_2,h3_3,h3_6,h3_8,h3_20,condVC]
  refine ⟨fun hc20=>hX10 ?_,fun hc20=>hY10 ?_⟩
  ·clear hX10 hY10 X10 Y10
   refine SX.seq_k fun K11 hK11=>?_
   refine SX.region_d [some 21,none,some 7] rfl (fun ops hops=>?_)
   unfold Dsts at hops
   simp (dsimp:=false)(disch:=omega) only [go_sem,Φa,hP,h3_1,h3_2,h3_3,h3_6,h3_8,h3_20,hops]
   (iterate 23 refine ⟨_,Cell.at 1 rfl rfl,?_⟩)
   try refine stI ?_
   try simp (dsimp:=false)(disch:=omega) only [go_sem,Φa,hP,h3_1,h3_2,h3_3,h3_6,h3_8,h3_20,hops]
   refine ⟨0,_,_,_,rfl,(by decide),.inr (by decide),?_⟩
   try refine stI ?_
   try simp (dsimp:=false)(disch:=omega) only [go_sem,Φa,hP,h3_1,h3_2,h3_3,h3_6,h3_8,h3_20,hops]
   refine hK11 _ _ ?_
   try clear hK11 K11
   refine SX.ret ?_
   simp only [andThen_normal,andThen_ret,andThen_exit,inBlk_normal,inBlk_ret,inBlk_exit,Nat.reduceEqDiff,if_true,if_false,↓reduceIte,retQ_ret]
   try simp only [res0,res1,res2,res3,stK_e,resX,resK,oneOr,ld_ptr,loadVC,loadN,List.nil_append,List.cons_append,Nat.reduceAdd,Nat.add_zero,Nat.zero_add,Addr.add_lit,Addr.add_zero',add_addS,T.elA_27,T.lay_27,T.szA_27,T.zr_27,Tryz.underlying27,go_sem,Φa,hP,h3_1,h3_2,h3_3,h3_6,h3_8,h3_20]
   refine ⟨_,_,Less.drops (Less.drop _ _),⟨_,Cell.at 0 rfl rfl,_,Cell.at 0 rfl rfl,_,Cell.at 0 rfl rfl,_,Cell.at 0 rfl rfl,_,Cell.at 0 rfl rfl,_,Cell.at 0 rfl rfl,_,Cell.at 0 rfl rfl,_,Cell.at 0 rfl rfl,_,Cell.at 0 rfl rfl,_,Cell.at 0 rfl rfl,_,Cell.at 0 rfl rfl,_,Cell.at 0 rfl rfl,_,Cell.at 0 rfl rfl,_,Cell.at 0 rfl rfl,_,Cell.at 0 rfl rfl,_,Cell.at 0 rfl rfl,_,Cell.at 0 rfl rfl,_,Cell.at 0 rfl rfl,_,Cell.at 0 rfl rfl,_,Cell.at 0 rfl rfl,_,Cell.at 0 rfl rfl,_,Cell.at 0 rfl rfl,_,Cell.at 0 rfl rfl,rfl⟩,?_⟩
   unfold wroteR
   rw [layG_off (k := k) (by omega) (by first | exact hc20 | simpa using hc20)]
   exact ⟨rfl,rfl⟩
  clear hX10 hY10 X10 Y10
  refine SX.skip ?_
  try simp only [andThen_normal,andThen_ret,andThen_exit,inBlk_normal,inBlk_ret,inBlk_exit,Nat.reduceEqDiff,if_true,if_false,↓reduceIte]
  refine hK8 _ _ ?_
  try clear hK8 K8
  refine SX.region_d [some 14,some 15,some 8] rfl (fun ops hops=>?_)
  unfold Dsts at hops
  simp (dsimp:=false)(disch:=omega) only [go_sem,Φa,hP,h3_1,h3_2,h3_3,h3_6,h3_8,h3_20,hops]
  repeat' ((first | refine And.intro (by omega) ?_ | fail); try refine stI ?_; try simp (dsimp:=false)(disch:=omega) only [go_sem,Φa,hP,h3_1,h3_2,h3_3,h3_6,h3_8,h3_20,hops])
  refine hK4 (k + 1) _ (some (b6,.cells #[.int .u8 0,.int .u8 0,.int .u8 0,.int .u8 0,.int .u8 0,.int .u8 0,.int .u8 0,.int .u8 0,.int .u8 0,.int .u8 0,.int .u8 0,.int .u8 0,.int .u8 0,.int .u8 0,.int .u8 0,.int .u8 0,.int .u16 0,.int .u16 0,.slice none 0 0,.int .u8 0,.int .u8 0,.slice none 0 0,.slice none 0 0] 27 (0,0)) :: some (bg,.cells (g.cells (.slice A1 n1 c1) (.slice A2 n2 c2) (.slice (some ⟨mr,0,none⟩) g.mm.length mcap)).toArray 27 (0,0)) :: H) _ (by first | exact Less.refl _ | exact Less.drop _ _ | exact Less.drops (Less.drop _ _) | exact Less.drops (Less.drops (Less.drop _ _)) | exact Less.drops (Less.drops (Less.drops (Less.drop _ _))) | exact Less.drops (Less.drops (Less.drops (Less.drops (Less.drop _ _))))) ?_ ?_
  ·try dsimp only
   refine ⟨?_,?_,?_,?_,?_,?_,?_⟩
   ·simp (dsimp:=false)(disch:=omega) only [go_sem,Φa,hP,h3_1,h3_2,h3_3,h3_6,h3_8,h3_20]
    first | done | rfl | skip
   ·simp (dsimp:=false)(disch:=omega) only [go_sem,Φa,hP,h3_1,h3_2,h3_3,h3_6,h3_8,h3_20]
   ·simp (dsimp:=false)(disch:=omega) only [go_sem,Φa,hP,h3_1,h3_2,h3_3,h3_6,h3_8,h3_20]
   ·simp (dsimp:=false)(disch:=omega) only [go_sem,Φa,hP,h3_1,h3_2,h3_3,h3_6,h3_8,h3_20]
   ·simp (dsimp:=false)(disch:=omega) only [go_sem,Φa,hP,h3_1,h3_2,h3_3,h3_6,h3_8,h3_20]
   ·rfl
   refine ⟨by omega,fun j hj=>?_⟩
   rcases Nat.lt_succ_iff_lt_or_eq.1 hj with h | rfl
   ·exact hin j h
   simpa using hc20
  (try dsimp only); omega
 clear hX7 hY7 X7 Y7
 refine SX.exit ?_
 try simp only [andThen_normal,andThen_ret,andThen_exit,inBlk_normal,inBlk_ret,inBlk_exit,Nat.reduceEqDiff,if_true,if_false,↓reduceIte]
 refine hK2 _ _ ?_
 try clear hK2 K2
 refine SX.seq_k fun K12 hK12=>?_
 refine SX.seq_k fun K13 hK13=>?_
 obtain rfl : k = bs.length := by omega
 have hlay := layG_on (g := g) hb1 hin
 have hi0 := hin 0 (by omega)
 have hi9 := hin (bs.length - 1) (by omega)
 have hi2 : H[i]? = some (some (mr,.cells (SX.ints .u8 (spliceL g.mm (g.I - 512).toNat (bs.take 0)) ++ mj).toArray 5 (0,0))) := by rw [splice_zero]; exact hi
 refine SX.less (L' := some (b6,.cells #[.int .u8 0,.int .u8 0,.int .u8 0,.int .u8 0,.int .u8 0,.int .u8 0,.int .u8 0,.int .u8 0,.int .u8 0,.int .u8 0,.int .u8 0,.int .u8 0,.int .u8 0,.int .u8 0,.int .u8 0,.int .u8 0,.int .u16 0,.int .u16 0,.slice none 0 0,.int .u8 0,.int .u8 0,.slice none 0 0,.slice none 0 0] 27 (0,0)) :: some (bg,.cells (g.cells (.slice A1 n1 c1) (.slice A2 n2 c2) (.slice (some ⟨mr,0,none⟩) g.mm.length mcap)).toArray 27 (0,0)) :: H.set i (some (mr,.cells (SX.ints .u8 (spliceL g.mm (g.I - 512).toNat (bs.take 0)) ++ mj).toArray 5 (0,0)))) (by rw [set_same hi2]; exact Less.refl _) ?_
 refine SX.region_d [some 9] rfl (fun ops hops=>?_)
 unfold Dsts at hops
 simp (dsimp:=false)(disch:=omega) only [go_sem,Φa,hP,h2_8,h2_1,h2_2,h2_3,h2_6,hops]
 refine hK13 _ _ ?_
 try clear hK13 K13
 refine SX.block ?_
 refine SX.live [1,2,3,6,9] (fun T4 hT4=>?_)
 simp only [forall_mem_cons',forall_mem_nil',go_sem,Φa,hP,h2_8,h2_1,h2_2,h2_3,h2_6] at hT4
 obtain ⟨h4_1,h4_2,h4_3,h4_6,h4_9⟩ := hT4
 clear h2_8 h2_1 h2_2 h2_3 h2_6 T2
 refine SX.loop_k (fun (ss : (Nat)) T L'=>(fun (k : Nat)=>T 9 = .int .i64 (k : Int) ∧ T 1 = T4 1 ∧ T 2 = T4 2 ∧ T 3 = T4 3 ∧ T 6 = T4 6 ∧ L' = some (b6,.cells #[.int .u8 0,.int .u8 0,.int .u8 0,.int .u8 0,.int .u8 0,.int .u8 0,.int .u8 0,.int .u8 0,.int .u8 0,.int .u8 0,.int .u8 0,.int .u8 0,.int .u8 0,.int .u8 0,.int .u8 0,.int .u8 0,.int .u16 0,.int .u16 0,.slice none 0 0,.int .u8 0,.int .u8 0,.slice none 0 0,.slice none 0 0] 27 (0,0)) :: some (bg,.cells (g.cells (.slice A1 n1 c1) (.slice A2 n2 c2) (.slice (some ⟨mr,0,none⟩) g.mm.length mcap)).toArray 27 (0,0)) :: H.set i (some (mr,.cells (SX.ints .u8 (spliceL g.mm (g.I - 512).toNat (bs.take k)) ++ mj).toArray 5 (0,0))) ∧ (k ≤ bs.length)) (ss)) (fun (ss : (Nat))=>(fun (k : Nat)=>bs.length - k) (ss)) 0 ?_ ?_
 ·try dsimp only
  refine ⟨?_,?_,?_,?_,?_,?_,?_⟩
  ·first | exact h4_9 | (rw [h4_9]; rfl) | (rw [h4_9]; simp; done)
  ·rfl
  ·rfl
  ·rfl
  ·rfl
  ·rfl
  exact Nat.zero_le _
 intro k T5 L5 hI K14 hK14
 try dsimp only at hI hK14
 simp only [h4_1,h4_2,h4_3,h4_6] at hI hK14
 obtain ⟨h5_9,h5_1,h5_2,h5_3,h5_6,hL5,hk⟩ := hI
 replace hL5 := hL5.symm
 subst hL5
 clear h4_1 h4_2 h4_3 h4_6 h4_9 T4
 refine SX.seq_k fun K15 hK15=>?_
 refine SX.seq_k fun K16 hK16=>?_
 refine SX.region_d [some 22,some 23,some 24,some 25] rfl (fun ops hops=>?_)
 unfold Dsts at hops
 simp (dsimp:=false)(disch:=omega) only [go_sem,Φa,hP,h5_9,h5_1,h5_2,h5_3,h5_6,hops]
 repeat' ((first | (refine SCall.mono (inMem_spec hP) ?_; rintro v_ L_ ⟨hv_,hL_⟩; rw [hv_,hL_]; clear hv_ hL_ v_ L_) | refine ⟨_,inMem_spec hP,?_⟩ | refine ⟨_,fun L0 hl0=>inMem_spec hP,?_⟩ | refine And.intro (by omega) ?_ | fail); try refine stI ?_; try simp (dsimp:=false)(disch:=omega) only [go_sem,Φa,hP,h5_9,h5_1,h5_2,h5_3,h5_6,hops])
 refine hK16 _ _ ?_
 try clear hK16 K16
 refine SX.cond_k fun X17 Y17 hX17 hY17=>?_
 simp (dsimp:=false)(disch:=omega) only [go_sem,Φa,hP,h5_9,h5_1,h5_2,h5_3,h5_6,condVC]
 refine ⟨fun hc25=>hX17 ?_,fun hc25=>hY17 ?_⟩
 ·clear hX17 hY17 X17 Y17
  refine SX.skip ?_
  try simp only [andThen_normal,andThen_ret,andThen_exit,inBlk_normal,inBlk_ret,inBlk_exit,Nat.reduceEqDiff,if_true,if_false,↓reduceIte]
  refine hK15 _ _ ?_
  try clear hK15 K15
  refine SX.seq_k fun K18 hK18=>?_
  refine SX.block ?_
  have hkl : k < bs.length := by omega
  obtain ⟨ad,rfl,hcb⟩ := hbA k _ (getD_some hkl)
  rw [Nat.mul_one] at hcb
  change Cell Γ _ _ (.int .u8 _) at hcb
  have hbb := byte_at hbB k
  have hsp := splice_succ (l := g.mm) (i := (g.I - 512).toNat) hkl (by omega)
  have hsl : (spliceL g.mm (g.I - 512).toNat (bs.take k)).length = g.mm.length := spliceL_length (by rw [List.length_take]; omega)
  have hix : (g.I + (k : Int) - 512).toNat = (g.I - 512).toNat + k := by omega
  refine SX.drawn_d [(0,.q),(1,.q),(2,.q),(3,.q),(4,.q),(5,.q),(6,.q),(7,.q),(8,.q),(9,.q),(10,.q),(11,.t)] (fun L=>L) (hP ▸ T.mixed) (by kernel_rfl) (by exact Less.refl _) [some 28,some 29,some 30,some 31,some 32,some 33,some 34,some 35,some 36,some 37,some 38,none] rfl (fun ops hops hopl=>?_)
  unfold Dsts at hops
  simp (dsimp:=false)(disch:=omega) only [go_sem,Φa,hP,h5_9,h5_1,h5_2,h5_3,h5_6,hops,hopl,hix]
  refine ⟨_,Cell.at 1 rfl (show (GM.cells _ _ _ _)[22]? = _ from rfl),?_⟩
  try refine stI ?_
  try simp (dsimp:=false)(disch:=omega) only [go_sem,Φa,hP,h5_9,h5_1,h5_2,h5_3,h5_6,hops,hopl,hix]
  refine ⟨_,Cell.cons _ (Cell.cons _ (Cell.hole hcb)),?_⟩
  try refine stI ?_
  try simp (dsimp:=false)(disch:=omega) only [go_sem,Φa,hP,h5_9,h5_1,h5_2,h5_3,h5_6,hops,hopl,hix]
  refine ⟨i + 2,_,_,_,(get_set hi2),(by rw [List.length_append,ints_length]; omega),.inr (by omega),?_⟩
  try refine stI ?_
  try simp (dsimp:=false)(disch:=omega) only [go_sem,Φa,hP,h5_9,h5_1,h5_2,h5_3,h5_6,hops,hopl,hix]
  rw [List.set_set,ints_app_set (by omega),hsp]
  refine hK18 _ _ ?_
  try clear hK18 K18
  refine SX.live [1,2,3,6,9] (fun T6 hT6=>?_)
  simp only [forall_mem_cons',forall_mem_nil',go_sem,Φa,hP,h5_9,h5_1,h5_2,h5_3,h5_6] at hT6
  obtain ⟨h6_1,h6_2,h6_3,h6_6,h6_9⟩ := hT6
  clear h5_9 h5_1 h5_2 h5_3 h5_6 T5
  refine SX.region_d [some 26,some 27,some 9] rfl (fun ops hops=>?_)
  unfold Dsts at hops
  simp (dsimp:=false)(disch:=omega) only [go_sem,Φa,hP,h6_1,h6_2,h6_3,h6_6,h6_9,hops]
  repeat' ((first | refine And.intro (by omega) ?_ | fail); try refine stI ?_; try simp (dsimp:=false)(disch:=omega) only [go_sem,Φa,hP,h6_1,h6_2,h6_3,h6_6,h6_9,hops])
  refine hK14 (k + 1) _ (some (b6,.cells #[.int .u8 0,.int .u8 0,.int .u8 0,.int .u8 0,.int .u8 0,.int .u8 0,.int .u8 0,.int .u8 0,.int .u8 0,.int .u8 0,.int .u8 0,.int .u8 0,.int .u8 0,.int .u8 0,.int .u8 0,.int .u8 0,.int .u16 0,.int .u16 0,.slice none 0 0,.int .u8 0,.int .u8 0,.slice none 0 0,.slice none 0 0] 27 (0,0)) :: some (bg,.cells (g.cells (.slice A1 n1 c1) (.slice A2 n2 c2) (.slice (some ⟨mr,0,none⟩) g.mm.length mcap)).toArray 27 (0,0)) :: H.set i (some (mr,.cells (SX.ints .u8 (spliceL g.mm (g.I - 512).toNat (bs.take ((k + 1)))) ++ mj).toArray 5 (0,0)))) _ (by first | exact Less.refl _ | exact Less.drop _ _ | exact Less.drops (Less.drop _ _) | exact Less.drops (Less.drops (Less.drop _ _)) | exact Less.drops (Less.drops (Less.drops (Less.drop _ _))) | exact Less.drops (Less.drops (Less.drops (Less.drops (Less.drop _ _))))) ?_ ?_
  ·try dsimp only
   refine ⟨?_,?_,?_,?_,?_,?_,?_⟩
   ·simp (dsimp:=false)(disch:=omega) only [go_sem,Φa,hP,h6_1,h6_2,h6_3,h6_6,h6_9]
    first | done | rfl | skip
   ·simp (dsimp:=false)(disch:=omega) only [go_sem,Φa,hP,h6_1,h6_2,h6_3,h6_6,h6_9]
   ·simp (dsimp:=false)(disch:=omega) only [go_sem,Φa,hP,h6_1,h6_2,h6_3,h6_6,h6_9]
   ·simp (dsimp:=false)(disch:=omega) only [go_sem,Φa,hP,h6_1,h6_2,h6_3,h6_6,h6_9]
   ·simp (dsimp:=false)(disch:=omega) only [go_sem,Φa,hP,h6_1,h6_2,h6_3,h6_6,h6_9]
   ·rfl
   omega
  (try dsimp only); omega
 clear hX17 hY17 X17 Y17
 refine SX.exit ?_
 try simp only [andThen_normal,andThen_ret,andThen_exit,inBlk_normal,inBlk_ret,inBlk_exit,Nat.reduceEqDiff,if_true,if_false,↓reduceIte]
 refine hK12 _ _ ?_
 try clear hK12 K12
 refine SX.seq_k fun K19 hK19=>?_
 refine SX.region_d [some 39,none,some 7] rfl (fun ops hops=>?_)
 unfold Dsts at hops
 simp (dsimp:=false)(disch:=omega) only [go_sem,Φa,hP,h5_9,h5_1,h5_2,h5_3,h5_6,hops]
 (iterate 23 refine ⟨_,Cell.at 1 rfl rfl,?_⟩)
 try refine stI ?_
 try simp (dsimp:=false)(disch:=omega) only [go_sem,Φa,hP,h5_9,h5_1,h5_2,h5_3,h5_6,hops]
 refine ⟨0,_,_,_,rfl,(by decide),.inr (by decide),?_⟩
 try refine stI ?_
 try simp (dsimp:=false)(disch:=omega) only [go_sem,Φa,hP,h5_9,h5_1,h5_2,h5_3,h5_6,hops]
 refine hK19 _ _ ?_
 try clear hK19 K19
 refine SX.ret ?_
 simp only [andThen_normal,andThen_ret,andThen_exit,inBlk_normal,inBlk_ret,inBlk_exit,Nat.reduceEqDiff,if_true,if_false,↓reduceIte,retQ_ret]
 try simp only [res0,res1,res2,res3,stK_e,resX,resK,oneOr,ld_ptr,loadVC,loadN,List.nil_append,List.cons_append,Nat.reduceAdd,Nat.add_zero,Nat.zero_add,Addr.add_lit,Addr.add_zero',add_addS,T.elA_27,T.lay_27,T.szA_27,T.zr_27,Tryz.underlying27,go_sem,Φa,hP,h5_9,h5_1,h5_2,h5_3,h5_6]
 obtain rfl : k = bs.length := by omega
 refine ⟨_,_,Less.drops (Less.drop _ _),⟨_,Cell.at 0 rfl rfl,_,Cell.at 0 rfl rfl,_,Cell.at 0 rfl rfl,_,Cell.at 0 rfl rfl,_,Cell.at 0 rfl rfl,_,Cell.at 0 rfl rfl,_,Cell.at 0 rfl rfl,_,Cell.at 0 rfl rfl,_,Cell.at 0 rfl rfl,_,Cell.at 0 rfl rfl,_,Cell.at 0 rfl rfl,_,Cell.at 0 rfl rfl,_,Cell.at 0 rfl rfl,_,Cell.at 0 rfl rfl,_,Cell.at 0 rfl rfl,_,Cell.at 0 rfl rfl,_,Cell.at 0 rfl rfl,_,Cell.at 0 rfl rfl,_,Cell.at 0 rfl rfl,_,Cell.at 0 rfl rfl,_,Cell.at 0 rfl rfl,_,Cell.at 0 rfl rfl,_,Cell.at 0 rfl rfl,rfl⟩,?_⟩
 unfold wroteR
 rw [hlay]
 rw [List.take_length]
 have hsl : (spliceL g.mm (g.I - 512).toNat bs).length = g.mm.length := spliceL_length (by omega)
 have hmk := RowI.mk2 (k := .u8) (e := 5) (l := spliceL g.mm (g.I - 512).toNat bs) (r := mr) (cap := mcap) (junk := mj) (by omega) (by omega)
 rw [hsl] at hmk
 exact ⟨_,rfl,rfl,hmk⟩

end Go.Proofs.YtgioegdjeodpiaaGreat
namespace Go.Proofs.YtgioegdjeodpiaaGreat
open Go.RowKit Go.SX
set_option maxHeartbeats 1000000 in
set_option maxRecDepth 100000 in
theorem sums_spec {Γ : Ctx} (hP : Γ.P = Tryz.prog) {L : Hp} {g : GM} {sv pv mv : Value} {o : Ord} {f : Fnt} {d : Feed} (h1 : IsS sv) (h2 : IsS pv) (h3 : IsS mv) (hg : OkG g) (hx : o.x < 16) (hop : 11 ≤ o.op ∧ o.op ≤ 15) :
  SCall Γ 68 #[(.agg (g.cells sv pv mv).toArray),(.agg o.cells.toArray),(.int .u8 (vG g o.x)),(.int .u8 (vG g o.y))] L (fun v L'=>v = .agg ((doG g o f d).2.cells sv pv mv).toArray ∧ L' = L) := by
 obtain ⟨A1,n1,c1,rfl⟩ := h1
 obtain ⟨A2,n2,c2,rfl⟩ := h2
 obtain ⟨A3,n3,c3,rfl⟩ := h3
 have hbx : 0 ≤ vG g o.x ∧ vG g o.x ≤ 255 := byte_at hg.Vb o.x
 have hby : 0 ≤ vG g o.y ∧ vG g o.y ≤ 255 := byte_at hg.Vb o.y
 refine SCall.enter (n := 74) (resX Γ [.cell 8 27]) (hP ▸ Tryz.func68) rfl rfl (by simp) (resX_ok rfl) ?_
 refine SX.seq_k fun K1 hK1=>?_
 refine SX.region_d [some 4,some 5,some 8] rfl (fun ops hops=>?_)
 unfold Dsts at hops
 simp (dsimp:=false)(disch:=omega) only [go_sem,ia_someH,hP,hops]
 intro bg
 try refine stI ?_
 try simp (dsimp:=false)(disch:=omega) only [go_sem,ia_someH,hP,hops]
 intro bo
 try refine stI ?_
 try simp (dsimp:=false)(disch:=omega) only [go_sem,ia_someH,hP,hops]
 intro b8
 try refine stI ?_
 try simp (dsimp:=false)(disch:=omega) only [go_sem,ia_someH,hP,hops]
 refine hK1 _ _ ?_
 try clear hK1 K1
 refine SX.live [2,3,4,5,8] (fun T1 hT1=>?_)
 simp only [forall_mem_cons',forall_mem_nil',go_sem,ia_someH,hP] at hT1
 obtain ⟨h1_2,h1_3,h1_4,h1_5,h1_8⟩ := hT1
 refine SX.join (fun (ss : Unit) T L'=>T 4 = T1 4 ∧ T 8 = T1 8 ∧ L' = some (b8,.cells #[.int .u8 0,.int .u8 0,.int .u8 0,.int .u8 0,.int .u8 0,.int .u8 0,.int .u8 0,.int .u8 0,.int .u8 0,.int .u8 0,.int .u8 0,.int .u8 0,.int .u8 0,.int .u8 0,.int .u8 0,.int .u8 0,.int .u16 0,.int .u16 0,.slice none 0 0,.int .u8 0,.int .u8 0,.slice none 0 0,.slice none 0 0] 27 (0,0)) :: some (bo,.cells o.cells.toArray 60 (0,0)) :: some (bg,.cells (GM.cells (doG g o f d).2 (.slice A1 n1 c1) (.slice A2 n2 c2) (.slice A3 n3 c3)).toArray 27 (0,0)) :: L ∧ (True)) (fun K2 hK2=>?_) ?_
 ·simp only [h1_4,h1_8] at hK2
  refine SX.seq_k fun K3 hK3=>?_
  refine SX.region_d [some 9,some 10] rfl (fun ops hops=>?_)
  unfold Dsts at hops
  simp (dsimp:=false)(disch:=omega) only [go_sem,ia_someH,hP,h1_2,h1_3,h1_4,h1_5,h1_8,hops]
  refine ⟨_,Cell.at 1 rfl (show (Ord.cells _)[0]? = _ from rfl),?_⟩
  try refine stI ?_
  try simp (dsimp:=false)(disch:=omega) only [go_sem,ia_someH,hP,h1_2,h1_3,h1_4,h1_5,h1_8,hops]
  refine hK3 _ _ ?_
  try clear hK3 K3
  refine SX.block ?_
  refine SX.seq_k fun K4 hK4=>?_
  refine SX.region_d [some 12,some 11] rfl (fun ops hops=>?_)
  unfold Dsts at hops
  simp (dsimp:=false)(disch:=omega) only [go_sem,ia_someH,hP,h1_2,h1_3,h1_4,h1_5,h1_8,hops]
  repeat' ((first | refine And.intro (by omega) ?_ | fail); try refine stI ?_; try simp (dsimp:=false)(disch:=omega) only [go_sem,ia_someH,hP,h1_2,h1_3,h1_4,h1_5,h1_8,hops])
  refine hK4 _ _ ?_
  try clear hK4 K4
  refine SX.cond_k fun X5 Y5 hX5 hY5=>?_
  simp (dsimp:=false)(disch:=omega) only [go_sem,ia_someH,hP,h1_2,h1_3,h1_4,h1_5,h1_8,condVC]
  refine ⟨fun hc11=>hX5 ?_,fun hc11=>hY5 ?_⟩
  ·clear hX5 hY5 X5 Y5
   refine SX.region_d [some 13,some 14,some 15,some 16,some 17,none] rfl (fun ops hops=>?_)
   unfold Dsts at hops
   simp (dsimp:=false)(disch:=omega) only [go_sem,ia_someH,hP,h1_2,h1_3,h1_4,h1_5,h1_8,hops]
   refine ⟨_,Cell.at 1 rfl (show (Ord.cells _)[1]? = _ from rfl),?_⟩
   try refine stI ?_
   try simp (dsimp:=false)(disch:=omega) only [go_sem,ia_someH,hP,h1_2,h1_3,h1_4,h1_5,h1_8,hops]
   refine ⟨2,_,_,_,rfl,(by rw [gcells_length]; omega),.inr (Nat.zero_le _),?_⟩
   try refine stI ?_
   try simp (dsimp:=false)(disch:=omega) only [go_sem,ia_someH,hP,h1_2,h1_3,h1_4,h1_5,h1_8,hops]
   rw [gV_set hg.V hx]
   refine hK2 () _ (_) _ (by exact Less.refl _) ?_
   try dsimp only
   refine ⟨?_,?_,?_,?_⟩
   ·simp (dsimp:=false)(disch:=omega) only [go_sem,ia_someH,hP,h1_2,h1_3,h1_4,h1_5,h1_8]
   ·simp (dsimp:=false)(disch:=omega) only [go_sem,ia_someH,hP,h1_2,h1_3,h1_4,h1_5,h1_8]
   ·rw [show (doG g o f d).2 = _ from by unfold doG; rw [show o.op = 11 by omega]]; rfl
   trivial
  clear hX5 hY5 X5 Y5
  refine SX.seq_k fun K6 hK6=>?_
  refine SX.region_d [some 19,some 18] rfl (fun ops hops=>?_)
  unfold Dsts at hops
  simp (dsimp:=false)(disch:=omega) only [go_sem,ia_someH,hP,h1_2,h1_3,h1_4,h1_5,h1_8,hops]
  repeat' ((first | refine And.intro (by omega) ?_ | fail); try refine stI ?_; try simp (dsimp:=false)(disch:=omega) only [go_sem,ia_someH,hP,h1_2,h1_3,h1_4,h1_5,h1_8,hops])
  refine hK6 _ _ ?_
  try clear hK6 K6
  refine SX.cond_k fun X7 Y7 hX7 hY7=>?_
  simp (dsimp:=false)(disch:=omega) only [go_sem,ia_someH,hP,h1_2,h1_3,h1_4,h1_5,h1_8,condVC]
  refine ⟨fun hc18=>hX7 ?_,fun hc18=>hY7 ?_⟩
  ·clear hX7 hY7 X7 Y7
   refine SX.seq_k fun K8 hK8=>?_
   refine SX.region_d [some 20,some 21,some 22,some 23,some 24,some 25,some 26,none] rfl (fun ops hops=>?_)
   unfold Dsts at hops
   simp (dsimp:=false)(disch:=omega) only [go_sem,ia_someH,hP,h1_2,h1_3,h1_4,h1_5,h1_8,hops]
   refine ⟨_,Cell.at 1 rfl (show (Ord.cells _)[1]? = _ from rfl),?_⟩
   try refine stI ?_
   try simp (dsimp:=false)(disch:=omega) only [go_sem,ia_someH,hP,h1_2,h1_3,h1_4,h1_5,h1_8,hops]
   refine ⟨2,_,_,_,rfl,(by rw [gcells_length]; omega),.inr (Nat.zero_le _),?_⟩
   try refine stI ?_
   try simp (dsimp:=false)(disch:=omega) only [go_sem,ia_someH,hP,h1_2,h1_3,h1_4,h1_5,h1_8,hops]
   rw [gV_set hg.V hx]
   refine hK8 _ _ ?_
   try clear hK8 K8
   refine SX.live [4,8] (fun T2 hT2=>?_)
   simp only [forall_mem_cons',forall_mem_nil',go_sem,ia_someH,hP,h1_2,h1_3,h1_4,h1_5,h1_8] at hT2
   obtain ⟨h2_4,h2_8⟩ := hT2
   clear h1_2 h1_3 h1_4 h1_5 h1_8 T1
   refine SX.region_d [some 27,some 28,none] rfl (fun ops hops=>?_)
   unfold Dsts at hops
   simp (dsimp:=false)(disch:=omega) only [go_sem,ia_someH,hP,h2_4,h2_8,hops]
   refine ⟨2,_,_,_,rfl,(by rw [gcells_length]; omega),.inr (Nat.zero_le _),?_⟩
   try refine stI ?_
   try simp (dsimp:=false)(disch:=omega) only [go_sem,ia_someH,hP,h2_4,h2_8,hops]
   rw [gV_set (g := { g with V := g.V.set o.x (bits .or .u8 (vG g o.x) (vG g o.y)) }) (by rw [List.length_set]; exact hg.V) (by decide)]
   refine hK2 () _ (_) _ (by exact Less.refl _) ?_
   try dsimp only
   refine ⟨?_,?_,?_,?_⟩
   ·simp (dsimp:=false)(disch:=omega) only [go_sem,ia_someH,hP,h2_4,h2_8]
   ·simp (dsimp:=false)(disch:=omega) only [go_sem,ia_someH,hP,h2_4,h2_8]
   ·rw [show (doG g o f d).2 = _ from by unfold doG; rw [show o.op = 12 by omega]]; rfl
   trivial
  clear hX7 hY7 X7 Y7
  refine SX.seq_k fun K9 hK9=>?_
  refine SX.region_d [some 30,some 29] rfl (fun ops hops=>?_)
  unfold Dsts at hops
  simp (dsimp:=false)(disch:=omega) only [go_sem,ia_someH,hP,h1_2,h1_3,h1_4,h1_5,h1_8,hops]
  repeat' ((first | refine And.intro (by omega) ?_ | fail); try refine stI ?_; try simp (dsimp:=false)(disch:=omega) only [go_sem,ia_someH,hP,h1_2,h1_3,h1_4,h1_5,h1_8,hops])
  refine hK9 _ _ ?_
  try clear hK9 K9
  refine SX.cond_k fun X10 Y10 hX10 hY10=>?_
  simp (dsimp:=false)(disch:=omega) only [go_sem,ia_someH,hP,h1_2,h1_3,h1_4,h1_5,h1_8,condVC]
  refine ⟨fun hc29=>hX10 ?_,fun hc29=>hY10 ?_⟩
  ·clear hX10 hY10 X10 Y10
   refine SX.seq_k fun K11 hK11=>?_
   refine SX.region_d [some 31,some 32,some 33,some 34,some 35,some 36,some 37,none] rfl (fun ops hops=>?_)
   unfold Dsts at hops
   simp (dsimp:=false)(disch:=omega) only [go_sem,ia_someH,hP,h1_2,h1_3,h1_4,h1_5,h1_8,hops]
   refine ⟨_,Cell.at 1 rfl (show (Ord.cells _)[1]? = _ from rfl),?_⟩
   try refine stI ?_
   try simp (dsimp:=false)(disch:=omega) only [go_sem,ia_someH,hP,h1_2,h1_3,h1_4,h1_5,h1_8,hops]
   refine ⟨2,_,_,_,rfl,(by rw [gcells_length]; omega),.inr (Nat.zero_le _),?_⟩
   try refine stI ?_
   try simp (dsimp:=false)(disch:=omega) only [go_sem,ia_someH,hP,h1_2,h1_3,h1_4,h1_5,h1_8,hops]
   rw [gV_set hg.V hx]
   refine hK11 _ _ ?_
   try clear hK11 K11
   refine SX.live [4,8] (fun T3 hT3=>?_)
   simp only [forall_mem_cons',forall_mem_nil',go_sem,ia_someH,hP,h1_2,h1_3,h1_4,h1_5,h1_8] at hT3
   obtain ⟨h3_4,h3_8⟩ := hT3
   clear h1_2 h1_3 h1_4 h1_5 h1_8 T1
   refine SX.region_d [some 38,some 39,none] rfl (fun ops hops=>?_)
   unfold Dsts at hops
   simp (dsimp:=false)(disch:=omega) only [go_sem,ia_someH,hP,h3_4,h3_8,hops]
   refine ⟨2,_,_,_,rfl,(by rw [gcells_length]; omega),.inr (Nat.zero_le _),?_⟩
   try refine stI ?_
   try simp (dsimp:=false)(disch:=omega) only [go_sem,ia_someH,hP,h3_4,h3_8,hops]
   rw [gV_set (g := { g with V := g.V.set o.x (bits .and .u8 (vG g o.x) (vG g o.y)) }) (by rw [List.length_set]; exact hg.V) (by decide)]
   refine hK2 () _ (_) _ (by exact Less.refl _) ?_
   try dsimp only
   refine ⟨?_,?_,?_,?_⟩
   ·simp (dsimp:=false)(disch:=omega) only [go_sem,ia_someH,hP,h3_4,h3_8]
   ·simp (dsimp:=false)(disch:=omega) only [go_sem,ia_someH,hP,h3_4,h3_8]
   ·rw [show (doG g o f d).2 = _ from by unfold doG; rw [show o.op = 13 by omega]]; rfl
   trivial
  clear hX10 hY10 X10 Y10
  refine SX.seq_k fun K12 hK12=>?_
  refine SX.region_d [some 41,some 40] rfl (fun ops hops=>?_)
  unfold Dsts at hops
  simp (dsimp:=false)(disch:=omega) only [go_sem,ia_someH,hP,h1_2,h1_3,h1_4,h1_5,h1_8,hops]
  repeat' ((first | refine And.intro (by omega) ?_ | fail); try refine stI ?_; try simp (dsimp:=false)(disch:=omega) only [go_sem,ia_someH,hP,h1_2,h1_3,h1_4,h1_5,h1_8,hops])
  refine hK12 _ _ ?_
  try clear hK12 K12
  refine SX.live [2,3,4,5,8,10,40] (fun T4 hT4=>?_)
  simp only [forall_mem_cons',forall_mem_nil',go_sem,ia_someH,hP,h1_2,h1_3,h1_4,h1_5,h1_8] at hT4
  obtain ⟨h4_2,h4_3,h4_4,h4_5,h4_8,h4_10,h4_40⟩ := hT4
  clear h1_2 h1_3 h1_4 h1_5 h1_8 T1
  refine SX.cond_k fun X13 Y13 hX13 hY13=>?_
  simp (dsimp:=false)(disch:=omega) only [go_sem,ia_someH,hP,h4_2,h4_3,h4_4,h4_5,h4_8,h4_10,h4_40,condVC]
  refine ⟨fun hc40=>hX13 ?_,fun hc40=>hY13 ?_⟩
  ·clear hX13 hY13 X13 Y13
   refine SX.seq_k fun K14 hK14=>?_
   refine SX.region_d [some 42,some 43,some 44,some 45,some 46,some 47,some 48,none] rfl (fun ops hops=>?_)
   unfold Dsts at hops
   simp (dsimp:=false)(disch:=omega) only [go_sem,ia_someH,hP,h4_2,h4_3,h4_4,h4_5,h4_8,h4_10,h4_40,hops]
   refine ⟨_,Cell.at 1 rfl (show (Ord.cells _)[1]? = _ from rfl),?_⟩
   try refine stI ?_
   try simp (dsimp:=false)(disch:=omega) only [go_sem,ia_someH,hP,h4_2,h4_3,h4_4,h4_5,h4_8,h4_10,h4_40,hops]
   refine ⟨2,_,_,_,rfl,(by rw [gcells_length]; omega),.inr (Nat.zero_le _),?_⟩
   try refine stI ?_
   try simp (dsimp:=false)(disch:=omega) only [go_sem,ia_someH,hP,h4_2,h4_3,h4_4,h4_5,h4_8,h4_10,h4_40,hops]
   rw [gV_set hg.V hx]
   refine hK14 _ _ ?_
   try clear hK14 K14
   refine SX.region_d [some 49,some 50,some 51,some 52,some 53,some 54,some 55,some 56,some 57,none] rfl (fun ops hops=>?_)
   unfold Dsts at hops
   simp (dsimp:=false)(disch:=omega) only [go_sem,ia_someH,hP,h4_2,h4_3,h4_4,h4_5,h4_8,h4_10,h4_40,hops]
   refine SCall.mono (one_spec hP) ?_
   rintro v_ L_ ⟨hv_,hL_⟩
   rw [hv_,hL_]
   clear hv_ hL_ v_ L_
   try refine stI ?_
   try simp (dsimp:=false)(disch:=omega) only [go_sem,ia_someH,hP,h4_2,h4_3,h4_4,h4_5,h4_8,h4_10,h4_40,hops]
   refine ⟨2,_,_,_,rfl,(by rw [gcells_length]; omega),.inr (Nat.zero_le _),?_⟩
   try refine stI ?_
   try simp (dsimp:=false)(disch:=omega) only [go_sem,ia_someH,hP,h4_2,h4_3,h4_4,h4_5,h4_8,h4_10,h4_40,hops]
   rw [gV_set (g := { g with V := g.V.set o.x (IntKind.u8.wrap ((vG g o.x) + (vG g o.y))) }) (by rw [List.length_set]; exact hg.V) (by decide)]
   refine hK2 () _ (_) _ (by exact Less.refl _) ?_
   try dsimp only
   refine ⟨?_,?_,?_,?_⟩
   ·simp (dsimp:=false)(disch:=omega) only [go_sem,ia_someH,hP,h4_2,h4_3,h4_4,h4_5,h4_8,h4_10,h4_40]
   ·simp (dsimp:=false)(disch:=omega) only [go_sem,ia_someH,hP,h4_2,h4_3,h4_4,h4_5,h4_8,h4_10,h4_40]
   ·rw [show (doG g o f d).2 = _ from by unfold doG; rw [show o.op = 14 by omega]]; rfl
   trivial
  clear hX13 hY13 X13 Y13
  refine SX.seq_k fun K15 hK15=>?_
  refine SX.region_d [some 59,some 58] rfl (fun ops hops=>?_)
  unfold Dsts at hops
  simp (dsimp:=false)(disch:=omega) only [go_sem,ia_someH,hP,h4_2,h4_3,h4_4,h4_5,h4_8,h4_10,h4_40,hops]
  repeat' ((first | refine And.intro (by omega) ?_ | fail); try refine stI ?_; try simp (dsimp:=false)(disch:=omega) only [go_sem,ia_someH,hP,h4_2,h4_3,h4_4,h4_5,h4_8,h4_10,h4_40,hops])
  refine hK15 _ _ ?_
  try clear hK15 K15
  refine SX.cond_k fun X16 Y16 hX16 hY16=>?_
  simp (dsimp:=false)(disch:=omega) only [go_sem,ia_someH,hP,h4_2,h4_3,h4_4,h4_5,h4_8,h4_10,h4_40,condVC]
  refine hX16 ?_
  clear hX16 hY16 X16 Y16
  refine SX.seq_k fun K17 hK17=>?_
  refine SX.region_d [some 60,some 61,some 62,some 63,some 64,some 65,some 66,none] rfl (fun ops hops=>?_)
  unfold Dsts at hops
  simp (dsimp:=false)(disch:=omega) only [go_sem,ia_someH,hP,h4_2,h4_3,h4_4,h4_5,h4_8,h4_10,h4_40,hops]
  refine ⟨_,Cell.at 1 rfl (show (Ord.cells _)[1]? = _ from rfl),?_⟩
  try refine stI ?_
  try simp (dsimp:=false)(disch:=omega) only [go_sem,ia_someH,hP,h4_2,h4_3,h4_4,h4_5,h4_8,h4_10,h4_40,hops]
  refine ⟨2,_,_,_,rfl,(by rw [gcells_length]; omega),.inr (Nat.zero_le _),?_⟩
  try refine stI ?_
  try simp (dsimp:=false)(disch:=omega) only [go_sem,ia_someH,hP,h4_2,h4_3,h4_4,h4_5,h4_8,h4_10,h4_40,hops]
  rw [gV_set hg.V hx]
  refine hK17 _ _ ?_
  try clear hK17 K17
  refine SX.live [2,3,4,8] (fun T5 hT5=>?_)
  simp only [forall_mem_cons',forall_mem_nil',go_sem,ia_someH,hP,h4_2,h4_3,h4_4,h4_5,h4_8,h4_10,h4_40] at hT5
  obtain ⟨h5_2,h5_3,h5_4,h5_8⟩ := hT5
  clear h4_2 h4_3 h4_4 h4_5 h4_8 h4_10 h4_40 T4
  refine SX.region_d [some 67,some 68,some 69,some 70,some 71,some 72,none] rfl (fun ops hops=>?_)
  unfold Dsts at hops
  simp (dsimp:=false)(disch:=omega) only [go_sem,ia_someH,hP,h5_2,h5_3,h5_4,h5_8,hops]
  refine SCall.mono (one_spec hP) ?_
  rintro v_ L_ ⟨hv_,hL_⟩
  rw [hv_,hL_]
  clear hv_ hL_ v_ L_
  try refine stI ?_
  try simp (dsimp:=false)(disch:=omega) only [go_sem,ia_someH,hP,h5_2,h5_3,h5_4,h5_8,hops]
  refine ⟨2,_,_,_,rfl,(by rw [gcells_length]; omega),.inr (Nat.zero_le _),?_⟩
  try refine stI ?_
  try simp (dsimp:=false)(disch:=omega) only [go_sem,ia_someH,hP,h5_2,h5_3,h5_4,h5_8,hops]
  rw [gV_set (g := { g with V := g.V.set o.x (IntKind.u8.wrap ((vG g o.x) - (vG g o.y))) }) (by rw [List.length_set]; exact hg.V) (by decide)]
  refine hK2 () _ (_) _ (by exact Less.refl _) ?_
  try dsimp only
  refine ⟨?_,?_,?_,?_⟩
  ·simp (dsimp:=false)(disch:=omega) only [go_sem,ia_someH,hP,h5_2,h5_3,h5_4,h5_8]
  ·simp (dsimp:=false)(disch:=omega) only [go_sem,ia_someH,hP,h5_2,h5_3,h5_4,h5_8]
  ·rw [show (doG g o f d).2 = _ from by unfold doG; rw [show o.op = 15 by omega]]; rfl
  trivial
 intro ss T6 L6 hI
 simp only [h1_4,h1_8] at hI 
 obtain ⟨h6_4,h6_8,hL6,hinv⟩ := hI
 replace hL6 := hL6.symm
 subst hL6
 clear h1_2 h1_3 h1_4 h1_5 h1_8 T1
 refine SX.seq_k fun K18 hK18=>?_
 refine SX.region_d [some 73,none] rfl (fun ops hops=>?_)
 unfold Dsts at hops
 simp (dsimp:=false)(disch:=omega) only [go_sem,ia_someH,hP,h6_4,h6_8,hops]
 (iterate 23 refine ⟨_,Cell.at 2 rfl rfl,?_⟩)
 try refine stI ?_
 try simp (dsimp:=false)(disch:=omega) only [go_sem,ia_someH,hP,h6_4,h6_8,hops]
 refine ⟨0,_,_,_,rfl,(by decide),.inr (by decide),?_⟩
 try refine stI ?_
 try simp (dsimp:=false)(disch:=omega) only [go_sem,ia_someH,hP,h6_4,h6_8,hops]
 refine hK18 _ _ ?_
 try clear hK18 K18
 refine SX.ret ?_
 simp only [andThen_normal,andThen_ret,andThen_exit,inBlk_normal,inBlk_ret,inBlk_exit,Nat.reduceEqDiff,if_true,if_false,↓reduceIte,retQ_ret]
 try simp only [res0,res1,res2,res3,stK_e,resX,resK,oneOr,ld_ptr,loadVC,loadN,List.nil_append,List.cons_append,Nat.reduceAdd,Nat.add_zero,Nat.zero_add,Addr.add_lit,Addr.add_zero',add_addS,T.elA_27,T.lay_27,T.szA_27,T.zr_27,Tryz.underlying27,go_sem,ia_someH,hP,h6_4,h6_8]
 exact ⟨_,_,Less.drops (Less.drops (Less.drop _ _)),⟨_,Cell.at 0 rfl rfl,_,Cell.at 0 rfl rfl,_,Cell.at 0 rfl rfl,_,Cell.at 0 rfl rfl,_,Cell.at 0 rfl rfl,_,Cell.at 0 rfl rfl,_,Cell.at 0 rfl rfl,_,Cell.at 0 rfl rfl,_,Cell.at 0 rfl rfl,_,Cell.at 0 rfl rfl,_,Cell.at 0 rfl rfl,_,Cell.at 0 rfl rfl,_,Cell.at 0 rfl rfl,_,Cell.at 0 rfl rfl,_,Cell.at 0 rfl rfl,_,Cell.at 0 rfl rfl,_,Cell.at 0 rfl rfl,_,Cell.at 0 rfl rfl,_,Cell.at 0 rfl rfl,_,Cell.at 0 rfl rfl,_,Cell.at 0 rfl rfl,_,Cell.at 0 rfl rfl,_,Cell.at 0 rfl rfl,rfl⟩,rfl,rfl⟩

end Go.Proofs.YtgioegdjeodpiaaGreat
universe u
namespace Go.SX
open Go.RowKit
def VCtg (Γ : Ctx) (n : Nat) (ops : Array Oper) : Tr → Hp → (Env → Hp → Prop) → Env → Hp → Prop
 | .nil,_,K,T,L=>K T L
 | .z,_,_,_,_=>True
 | .q k r,M,K,T,L=>oM (ops.toList[k]?) (fun o=>guardVC ops o.guard T (fun T=>VQ Γ o T M (fun v=>putVC n o.dst v T (fun T=>VCtg Γ n ops r M K T L))) (fun T=>putVC n o.dst undef T (fun T=>VCtg Γ n ops r M K T L))) False
 | .c k r,M,K,T,L=>oM (ops.toList[k]?) (fun o=>guardVC ops o.guard T (fun T=>∃ v,(∀ L0,Less L0 M → VC Γ o T L0 (fun u L1=>u = v ∧ L1 = L0)) ∧ putVC n o.dst v T (fun T=>VCtg Γ n ops r M K T L)) (fun T=>putVC n o.dst undef T (fun T=>VCtg Γ n ops r M K T L))) False
 | .e k r s,M,K,T,L=>oM (ops.toList[k]?) (fun o=>guardVC ops o.guard T (fun T=>VC Γ o T L (fun v L'=>putVC n o.dst v T (fun T=>Less L' M ∧ VCtg Γ n ops r M K T L'))) (fun T=>putVC n o.dst undef T (fun T=>VCtg Γ n ops r M K T L))) False ∧ VCtg Γ n ops s M K T L
 | .t k r,M,K,T,L=>oM (ops.toList[k]?) (fun o=>guardVC ops o.guard T (fun T=>VC Γ o T L (fun v L'=>putVC n o.dst v T (fun T=>VCtg Γ n ops r [] K T L'))) (fun T=>putVC n o.dst undef T (fun T=>VCtg Γ n ops r [] K T L))) False
section
variable {ds : List Deferred} {Γ : Ctx} {n : Nat} {T : Env} {L : Hp} {Q : Exit → Env → Hp → Prop}

theorem tg_sound {ops : Array Oper} {tl : List Nat} {K : Env → Hp → Prop} (hs : Region.noSelect ops = true) : ∀ (pl : Tr) (m : Nat) (td : Bool) (listed : Array Bool) (M : Hp) (T : Env) (L : Hp) (a : Act),
  pl.even m = true → Closed ops listed → VCtg Γ n ops pl M K T L → Fits ds n T a → (td = false → Less L M) →
  (okTr ops tl true td pl listed = true → AnyL Γ ops (onlyNormal fun a w=>∃ T L,Fits ds n T a ∧ Inv Γ L w ∧ K T L) tl m listed M L a) ∧
  (okTr ops tl false td pl listed = true → ∀ i ∈ pl.alts,i ∈ Region.ready .any ops listed → ∀ w,Inv Γ L w → 0 < m ∧ wpOp Γ.P ops (onlyNormal fun a w=>∃ T L,Fits ds n T a ∧ Inv Γ L w ∧ K T L) i (fun a' w'=>∃ M' L' : Hp,Inv Γ L' w' ∧ Less L' M' ∧ (i ∉ tl → Less M' M) ∧ AnyL Γ ops (onlyNormal fun a w=>∃ T L,Fits ds n T a ∧ Inv Γ L w ∧ K T L) tl (m - 1) (listed.setIfInBounds i true) M' L' a') a w) := by
 intro pl
 induction pl with
 | nil =>
  intro m td listed M T L a he hcl h hf hC
  have hm : m = 0 := by simpa [Tr.even] using he
  subst hm
  exact ⟨fun hB=>⟨by simpa [okTr] using hB,fun w hi=>⟨T,L,hf,hi,h⟩⟩,fun hB=>by simp [okTr] at hB⟩
 | z=>exact fun m td listed M T L a he hcl h hf hC=>⟨fun hB=>by simp [okTr] at hB,fun hB i hi=>by simp [Tr.alts] at hi⟩
 | q k r ih =>
  intro m td listed M T L a he hcl h hf hC
  refine ⟨fun hB=>?_,fun hB=>by simp [okTr] at hB⟩
  simp only [Tr.even,Bool.and_eq_true,bne_iff_ne,ne_eq] at he
  obtain ⟨hm,he⟩ := he
  obtain ⟨m,rfl⟩ : ∃ m',m = m' + 1 := ⟨m - 1,by omega⟩
  simp only [VCtg] at h
  rw [Array.getElem?_toList] at h
  cases ho : ops[k]? with
  | none=>rw [ho] at h; exact h.elim
  | some o =>
   rw [ho,oM_some] at h
   simp only [okTr,Bool.and_eq_true,Bool.not_eq_true',true_and] at hB
   obtain ⟨⟨⟨⟨⟨htd,hr⟩,hfr⟩,hnc⟩,htl⟩,hB⟩ := hB
   have hLM := hC htd
   have hr' : k ∈ Region.ready .any ops listed := by simpa using hr
   have hnc' : isCallV o = false := by simpa [notCall,ho] using hnc
   have key : ∃ v T',YV Γ.P ops (Inv Γ M) o v a ∧ Fits ds n T' (a.put o.dst v) ∧ VCtg Γ n ops r M K T' L := by
    rcases guardVC_sound hf h with ⟨hwa,h⟩ | ⟨hwa,h⟩
    ·obtain ⟨v,hk,hrun | ⟨hc,_⟩⟩ := VQ_sound h
     ·obtain ⟨T',hf',hk'⟩ := putVC_sound hf hk
      exact ⟨v,T',.inl ⟨hwa,by rw [hf.eval]; exact hrun⟩,hf',hk'⟩
     rw [hnc'] at hc; cases hc
    obtain ⟨T',hf',hk'⟩ := putVC_sound hf h
    exact ⟨undef,T',.inr ⟨hwa,rfl⟩,hf',hk'⟩
   obtain ⟨v,T',hy,hf',hk'⟩ := key
   exact AnyL_first ho (Region.noSelect_spec hs) (fun _ _ _ h=>h) ops.size (fun t ht=>List.all_eq_true.1 htl t ht) m listed _ _ a hcl (Region.free_spec ho hfr) hr' (.of_quiet ho hy) hLM
    ((ih m td _ _ T' L _ he (hcl.set hr') hk' hf' fun _=>hLM).1 hB)
 | c k r ih =>
  intro m td listed M T L a he hcl h hf hC
  refine ⟨fun hB=>?_,fun hB=>by simp [okTr] at hB⟩
  simp only [Tr.even,Bool.and_eq_true,bne_iff_ne,ne_eq] at he
  obtain ⟨hm,he⟩ := he
  obtain ⟨m,rfl⟩ : ∃ m',m = m' + 1 := ⟨m - 1,by omega⟩
  simp only [VCtg] at h
  rw [Array.getElem?_toList] at h
  cases ho : ops[k]? with
  | none=>rw [ho] at h; exact h.elim
  | some o =>
   rw [ho,oM_some] at h
   simp only [okTr,Bool.and_eq_true,Bool.not_eq_true',true_and] at hB
   obtain ⟨⟨⟨⟨htd,hr⟩,hfr⟩,htl⟩,hB⟩ := hB
   have hLM := hC htd
   have hr' : k ∈ Region.ready .any ops listed := by simpa using hr
   have key : ∃ v T',StepV Γ ops (onlyNormal fun a w=>∃ T L,Fits ds n T a ∧ Inv Γ L w ∧ K T L) k o v M a ∧ Fits ds n T' (a.put o.dst v) ∧ VCtg Γ n ops r M K T' L := by
    rcases guardVC_sound hf h with ⟨hwa,v,h,hk⟩ | ⟨hwa,h⟩
    ·obtain ⟨T',hf',hk'⟩ := putVC_sound hf hk
     refine ⟨v,T',fun a' hs L0 w hl0 hi K hK=>?_,hf',hk'⟩
     unfold wpOp
     simp only [ho]
     have hy := VC_sound (h L0 hl0) w hi
     rw [← hf.eval,← hs.1] at hy
     rw [hs.2,hwa,if_pos rfl]
     refine .inl ?_
     unfold Oper.wp
     revert hy
     generalize (execOp a'.eval o).run Γ.P w = r
     intro hy
     cases r with
     | halt x w'=>exact hy.elim
     | ok nx w' =>
      cases nx <;> first | exact hy.elim | skip
      case value u =>
       obtain ⟨L',hi',rfl,rfl⟩ := hy
       exact hK _ hi'
      case skip =>
       obtain ⟨L',hi',hv,rfl⟩ := hy
       have := hK _ hi'
       rw [← hv] at this
       exact this
      case enter f args =>
       simp only [Oper.upon]
       refine Calls.mono hy ?_
       rintro e w'' ⟨u,L',rfl,hi',rfl,rfl⟩
       exact hK _ hi'
    obtain ⟨T',hf',hk'⟩ := putVC_sound hf h
    refine ⟨undef,T',fun a' hs L0 w hl0 hi K hK=>?_,hf',hk'⟩
    unfold wpOp
    simp only [ho,hs.2,hwa,Bool.false_eq_true,if_false]
    exact hK w hi
   obtain ⟨v,T',hy,hf',hk'⟩ := key
   exact AnyL_first ho (Region.noSelect_spec hs) (fun _ _ _ h=>h) ops.size (fun t ht=>List.all_eq_true.1 htl t ht) m listed _ _ a hcl (Region.free_spec ho hfr) hr' hy hLM
    ((ih m td _ _ T' L _ he (hcl.set hr') hk' hf' fun _=>hLM).1 hB)
 | e k r s ihr ihs =>
  intro m td listed M T L a he hcl h hf hC
  simp only [Tr.even,Bool.and_eq_true,bne_iff_ne,ne_eq] at he
  obtain ⟨⟨hm,he⟩,hes⟩ := he
  obtain ⟨m,rfl⟩ : ∃ m',m = m' + 1 := ⟨m - 1,by omega⟩
  simp only [VCtg] at h
  obtain ⟨h,hsx⟩ := h
  rw [Array.getElem?_toList] at h
  have core : ∀ hd,okTr ops tl hd td (.e k r s) listed = true → ∀ i ∈ (Tr.e k r s).alts,i ∈ Region.ready .any ops listed → ∀ w,Inv Γ L w → wpOp Γ.P ops (onlyNormal fun a w=>∃ T L,Fits ds n T a ∧ Inv Γ L w ∧ K T L) i (fun a' w'=>∃ M' L' : Hp,Inv Γ L' w' ∧ Less L' M' ∧ (i ∉ tl → Less M' M) ∧ AnyL Γ ops (onlyNormal fun a w=>∃ T L,Fits ds n T a ∧ Inv Γ L w ∧ K T L) tl m (listed.setIfInBounds i true) M' L' a') a w := by
   intro hd hB i hi hir w hw
   simp only [okTr,Bool.and_eq_true,Bool.not_eq_true'] at hB
   obtain ⟨⟨⟨⟨⟨_,htd⟩,hnt⟩,hr⟩,hB⟩,hBs⟩ := hB
   have hLM := hC htd
   have hr' : k ∈ Region.ready .any ops listed := by simpa using hr
   rcases List.mem_cons.1 (show i ∈ k :: s.alts from hi) with rfl | hi
   ·cases ho : ops[i]? with
    | none=>rw [ho] at h; exact h.elim
    | some o =>
     rw [ho,oM_some] at h
     refine wpOp_mono ?_ (eff_wpOp ho hf hw (R := fun T L'=>Less L' M ∧ VCtg Γ n ops r M K T L') (N := fun T L=>VCtg Γ n ops r M K T L) h)
     rintro a' w' ⟨T',L',hf',hi'',⟨h2,h3⟩ | ⟨rfl,h3⟩⟩
     ·exact ⟨M,L',hi'',h2,fun _=>Less.refl _,(ihr m td _ M T' L' a' he (hcl.set hr') h3 hf' fun _=>h2).1 hB⟩
     exact ⟨M,_,hi'',hLM,fun _=>Less.refl _,(ihr m td _ M T' _ a' he (hcl.set hr') h3 hf' fun _=>hLM).1 hB⟩
   have := ((ihs (m + 1) td listed M T L a hes hcl hsx hf fun _=>hLM).2 hBs i hi hir w hw).2
   rwa [Nat.add_sub_cancel] at this
  refine ⟨fun hB=>⟨fun h0=>?_,fun i hi w hw=>core true hB i ?_ hi w hw⟩,fun hB i hi hir w hw=>⟨by omega,core false hB i hi hir w hw⟩⟩
  ·simp only [okTr,Bool.and_eq_true] at hB
   have hr := hB.1.1.2
   rw [h0] at hr
   simp at hr
  ·simp only [okTr,Bool.and_eq_true,Bool.not_true,Bool.false_or] at hB
   have := List.all_eq_true.1 hB.1.1.1.1.1 i hi
   simpa using this
 | t k r ih =>
  intro m td listed M T L a he hcl h hf hC
  refine ⟨fun hB=>?_,fun hB=>by simp [okTr] at hB⟩
  simp only [Tr.even,Bool.and_eq_true,bne_iff_ne,ne_eq] at he
  obtain ⟨hm,he⟩ := he
  obtain ⟨m,rfl⟩ : ∃ m',m = m' + 1 := ⟨m - 1,by omega⟩
  simp only [VCtg] at h
  rw [Array.getElem?_toList] at h
  cases ho : ops[k]? with
  | none=>rw [ho] at h; exact h.elim
  | some o =>
   rw [ho,oM_some] at h
   simp only [okTr,Bool.and_eq_true,decide_eq_true_eq,true_and] at hB
   obtain ⟨⟨hr,hnt⟩,hB⟩ := hB
   have hr' : k ∈ Region.ready .any ops listed := by rw [hr]; simp
   refine ⟨fun h0=>(by rw [h0] at hr; cases hr),fun i hi' w hi=>?_⟩
   rw [hr] at hi'
   have hik : i = k := by simpa using hi'
   subst hik
   have hmem : i ∈ tl := by simpa using hnt
   refine wpOp_mono ?_ (eff_wpOp ho hf hi (R := fun T L'=>VCtg Γ n ops r [] K T L') (N := fun T L=>VCtg Γ n ops r [] K T L) h)
   rintro a' w' ⟨T',L',hf',hi'',h3 | ⟨rfl,h3⟩⟩
   ·exact ⟨[],L',hi'',Less.nil _,fun hn=>absurd hmem hn,(ih m true _ _ T' L' a' he (hcl.set hr') h3 hf' fun h=>by cases h).1 hB⟩
   exact ⟨[],L',hi'',Less.nil _,fun hn=>absurd hmem hn,(ih m true _ _ T' L' a' he (hcl.set hr') h3 hf' fun h=>by cases h).1 hB⟩

theorem SX.tg {id : Nat} {l : List Oper} {M : Hp} (pl : Tr) (hl : Less L M) (hm : Γ.P.follows .mixedOrders = true) (hB : treeB l.toArray pl = true)
  (h : VCtg Γ n l.toArray pl M (Q .normal) T L) : SX Γ n (.region id l.toArray true) Q T L := fun ds a w hf hi=>by
 simp only [treeB,Bool.and_eq_true] at hB
 obtain ⟨⟨hs,hev⟩,hB⟩ := hB
 have H := (tg_sound (K := Q .normal) (tl := pl.tails) hs pl _ false _ M T L a hev (Closed.zero _) h hf fun _=>hl).1 hB
 have H2 := wp_region_any (id := id) hm (H.any _ _ _ _ _ _ hi.drewR)
 refine Code.wp_mono (fun e a w he=>?_) H2
 cases e <;> first | exact he | exact (he : False).elim
theorem SX.tg_d {id : Nat} {l : List Oper} {M : Hp} (pl : Tr) (hl : Less L M) (hm : Γ.P.follows .mixedOrders = true) (hB : treeB l.toArray pl = true) (ds : List (Option Tmp)) (hd : l.map (fun o : Oper=>o.dst) = ds)
  (h : ∀ ops : Array Oper,Dsts ops ds → (∀ k : Nat,ops.toList[k]? = l[k]?) → VCtg Γ n ops pl M (Q .normal) T L) : SX Γ n (.region id l.toArray true) Q T L := SX.tg pl hl hm hB (h _ (dsts_of hd) fun _=>rfl)
end
def VCtgH (Γ : Ctx) (n : Nat) (ops : Array Oper) (pl : Tr) (M : Hp) (K : (Env → Hp → Prop)) (T : Env) (L : Hp) (_ : Dk ops) (_ : Dk K) (_ : Dk T) (_ : Dk L) : Prop := VCtg Γ n ops pl M K T L
section
variable {ds : List Deferred} {Γ : Ctx} {n : Nat} {ops : Array Oper} {T : Env} {L M : Hp} {Q : Env → Hp → Prop} {k : Nat} {r s : Tr}
theorem tg_H {pl : Tr} : VCtg Γ n ops pl M Q T L = VCtgH Γ n ops pl M Q T L () () () () := rfl
theorem tg_nilH : VCtgH Γ n ops .nil M Q T L () () () () = Q T L := rfl
theorem tg_zH : VCtgH Γ n ops .z M Q T L () () () () = True := rfl
theorem tg_qH : VCtgH Γ n ops (.q k r) M Q T L () () () () = oMH (ops.toList[k]?) (fun o=>guardVCH ops o.guard T (fun T=>VQH Γ o T M (fun v=>putVCH n o.dst v T (fun T=>VCtgH Γ n ops r M Q T L () () () ()) () ()) () () () ()) (fun T=>putVCH n o.dst undef T (fun T=>VCtgH Γ n ops r M Q T L () () () ()) () ()) () () () ()) False () () := rfl
theorem tg_cH : VCtgH Γ n ops (.c k r) M Q T L () () () () = oMH (ops.toList[k]?) (fun o=>guardVCH ops o.guard T (fun T=>∃ v,(∀ L0,Less L0 M → VCH Γ o T L0 (fun u L1=>u = v ∧ L1 = L0) () () () ()) ∧ putVCH n o.dst v T (fun T=>VCtgH Γ n ops r M Q T L () () () ()) () ()) (fun T=>putVCH n o.dst undef T (fun T=>VCtgH Γ n ops r M Q T L () () () ()) () ()) () () () ()) False () () := rfl
theorem tg_eH : VCtgH Γ n ops (.e k r s) M Q T L () () () () = (stK (oMH (ops.toList[k]?) (fun o=>guardVCH ops o.guard T (fun T=>VCH Γ o T L (fun v L'=>putVCH n o.dst v T (fun T=>Less L' M ∧ VCtgH Γ n ops r M Q T L' () () () ()) () ()) () () () ()) (fun T=>putVCH n o.dst undef T (fun T=>VCtgH Γ n ops r M Q T L () () () ()) () ()) () () () ()) False () ()) () ∧ stK (VCtgH Γ n ops s M Q T L () () () ()) ()) := by
 rw [stK_e,stK_e]; rfl
theorem tg_e1H : VCtgH Γ n ops (.e k r .z) M Q T L () () () () = oMH (ops.toList[k]?) (fun o=>guardVCH ops o.guard T (fun T=>VCH Γ o T L (fun v L'=>putVCH n o.dst v T (fun T=>Less L' M ∧ VCtgH Γ n ops r M Q T L' () () () ()) () ()) () () () ()) (fun T=>putVCH n o.dst undef T (fun T=>VCtgH Γ n ops r M Q T L () () () ()) () ()) () () () ()) False () () := by
 show (_ ∧ True) = _
 rw [and_true]; rfl
theorem tg_tH : VCtgH Γ n ops (.t k r) M Q T L () () () () = oMH (ops.toList[k]?) (fun o=>guardVCH ops o.guard T (fun T=>VCH Γ o T L (fun v L'=>putVCH n o.dst v T (fun T=>VCtgH Γ n ops r [] Q T L' () () () ()) () ()) () () () ()) (fun T=>putVCH n o.dst undef T (fun T=>VCtgH Γ n ops r [] Q T L () () () ()) () ()) () () () ()) False () () := rfl
end
end Go.SX
namespace Go.SX
attribute [go_sem] tg_H tg_nilH tg_zH tg_qH tg_cH tg_tH tg_e1H
attribute [go_sem low] tg_eH
end Go.SX
namespace Go.Proofs.YtgioegdjeodpiaaGreat
open Go.RowKit Go.SX
open Go.SX renaming ia_someH → Φa

def doneR (r : Int × GM) (L : Hp) (v : Value) (L' : Hp) : Prop := ∃ g' sv pv mv s1 s2 s3,v = .tuple #[.agg (GM.cells g' sv pv mv).toArray,.int .u8 r.1] ∧ L' = s1 :: s2 :: s3 :: L ∧ Rows g' sv pv mv s1 s2 s3 ∧ (r.1 = 1 → g' = r.2)
theorem Rows.of {g g' : GM} {sv pv mv : Value} {s1 s2 s3 : Slot} (h : Rows g sv pv mv s1 s2 s3) (h1 : g'.st = g.st) (h2 : g'.pg = g.pg) (h3 : g'.mm = g.mm) : Rows g' sv pv mv s1 s2 s3 := ⟨by rw [h1]; exact h.st,by rw [h2]; exact h.pg,by rw [h3]; exact h.mm⟩
theorem less5d {a b c d e : Slot} {R : Hp} : Less (a :: b :: c :: d :: e :: R) R := Less.sublist (.cons _ (.cons _ (.cons _ (.cons _ (.cons _ (List.Sublist.refl _))))))

theorem fAt {f : Fnt} {fv : Value} {x : Nat} (h : x < 16) : (f.cells fv)[x]? = some (.int .u16 (f.at_.getD x 0)) := by
 match x,h with
 | 0,_ | 1,_ | 2,_ | 3,_ | 4,_ | 5,_ | 6,_ | 7,_ | 8,_ | 9,_ | 10,_ | 11,_ | 12,_ | 13,_ | 14,_ | 15,_=>rfl
 | n + 16,h=>omega

theorem cutV {b l m : Nat} (h : l < m) : cutA (some ⟨b,0,none⟩) 1 m l = some ⟨b,l,none⟩ := cutA_lt h
theorem sliceG {Γ : Ctx} {L : Hp} {gp i n c : Nat} {g : GM} {sv pv mv : Value} (hV : g.V.length = 16) (hi : L[i]? = some (some (gp,.cells (g.cells sv pv mv).toArray 27 (0,0)))) (hn : n ≤ 16) (hc : n ≤ c) : SlI .u8 (Cell Γ L) (.slice (some ⟨gp,0,none⟩) n c) (g.V.take n) := by
 refine ⟨_,c,by rw [List.length_take,hV,Nat.min_eq_left hn],by rw [List.length_take,hV]; omega,fun j x hj=>⟨_,rfl,?_⟩⟩
 show Cell Γ L _ _
 rw [Nat.mul_one,Addr.add_lit,Nat.zero_add]
 have hj' := (List.getElem?_eq_some_iff.1 hj).1
 rw [List.length_take,hV] at hj'
 have hx : g.V.getD j 0 = x := by
  rw [List.getElem?_take,if_pos (by omega)] at hj
  rw [List.getD_eq_getElem?_getD,hj]; rfl
 exact Cell.at i hi (by rw [gV (by omega),hx])
theorem lit_g {g : GM} {sv pv mv : Value} : (#[.int .u8 (g.V.getD 0 0),.int .u8 (g.V.getD 1 0),.int .u8 (g.V.getD 2 0),.int .u8 (g.V.getD 3 0),.int .u8 (g.V.getD 4 0),.int .u8 (g.V.getD 5 0),.int .u8 (g.V.getD 6 0),.int .u8 (g.V.getD 7 0),.int .u8 (g.V.getD 8 0),.int .u8 (g.V.getD 9 0),.int .u8 (g.V.getD 10 0),.int .u8 (g.V.getD 11 0),.int .u8 (g.V.getD 12 0),.int .u8 (g.V.getD 13 0),.int .u8 (g.V.getD 14 0),.int .u8 (g.V.getD 15 0),.int .u16 g.I,.int .u16 g.PC,sv,.int .u8 g.dl,.int .u8 g.sd,pv,mv] : Array Value) = (GM.cells g sv pv mv).toArray := rfl
theorem put_g {g : GM} {sv pv mv : Value} {l : List Value} (h : l.length = 23) : setN l 0 (GM.cells g sv pv mv) = GM.cells g sv pv mv := by
 have e := setN_app (GM.cells g sv pv mv) [] l (by rw [h]; exact Nat.le_refl 23)
 rw [List.nil_append,List.length_nil,List.nil_append,List.drop_of_length_le (by rw [h]; exact Nat.le_refl 23),List.append_nil] at e
 exact e
theorem wrote_any {g : GM} {sv pv mv : Value} {bs : List Int} {i : Nat} {H L' : Hp} {v : Value} {q0 : Slot} (hi : H[i]? = some q0) (hrm : RowI .u8 5 mv g.mm q0) (h : wroteR g sv pv mv bs i H v L') :
  ∃ gr q b,v = .tuple #[.agg (GM.cells gr sv pv mv).toArray,.bool b] ∧ L' = H.set i q ∧ RowI .u8 5 mv gr.mm q ∧ layG g bs = (if b = true then some gr else none) ∧ (b = false → gr = g) := by
 unfold wroteR at h
 rcases hl : layG g bs with _ | g'
 ·rw [hl] at h
  exact ⟨g,q0,false,h.1,h.2.trans (set_same hi).symm,hrm,rfl,fun _=>rfl⟩
 rw [hl] at h
 obtain ⟨q,h1,h2,h3⟩ := h
 exact ⟨g',q,true,h1,h2,h3,rfl,fun h=>by cases h⟩
theorem lessB1 {a b c d e : Slot} {R : Hp} : Less (a :: b :: c :: d :: e :: R) [e] := Less.sublist (.cons _ (.cons _ (.cons _ (.cons _ (.cons_cons _ (List.nil_sublist _))))))
theorem lessB2 {z a b c d e : Slot} {R : Hp} : Less (z :: a :: b :: c :: d :: e :: R) [e] := (Less.drop _ _).trans lessB1
set_option maxHeartbeats 1000000 in
set_option maxRecDepth 100000 in
theorem others_spec {Γ : Ctx} (hP : Γ.P = Tryz.prog) {L : Hp} {g : GM} {sv pv mv fv : Value} {o : Ord} {f : Fnt} {d : Feed} {s1 s2 s3 : Slot} (hr : Rows g sv pv mv s1 s2 s3) (hg : OkG g) (hfo : OkF f) (hf : SlI .u8 (Cell Γ L) fv f.bs) (hml : g.mm.length = 3232) (hfl : f.bs.length ≤ 65536) (hx : o.x < 16) (hop : 23 ≤ o.op ∧ o.op ≤ 31) :
  SCall Γ 70 #[(.agg (g.cells sv pv mv).toArray),(.agg o.cells.toArray),(.agg (f.cells fv).toArray),(.agg d.cells.toArray)] (s1 :: s2 :: s3 :: L) (doneR (doG g o f d) L) := by
 obtain ⟨A1,c1,hv1,_,_⟩ := Row.form hr.st
 obtain ⟨A2,c2,hv2,_,_⟩ := Row.form hr.pg
 obtain ⟨A3,c3,hv3,_,_⟩ := Row.form hr.mm
 subst hv1 hv2 hv3
 have hbx : 0 ≤ vG g o.x ∧ vG g o.x ≤ 255 := byte_at hg.Vb o.x
 have hIb := hg.I
 refine SCall.enter (n := 152) (resX Γ [.cell 8 27,.tmp 9]) (hP ▸ Tryz.func70) rfl rfl (by simp) (resX_ok rfl) ?_
 refine SX.seq_k fun K1 hK1=>?_
 refine SX.region_d [some 4,some 5,some 6,some 7,some 8,some 9] rfl (fun ops hops=>?_)
 unfold Dsts at hops
 simp (dsimp:=false)(disch:=omega) only [go_sem,Φa,hP,hops]
 intro bg
 try refine stI ?_
 try simp (dsimp:=false)(disch:=omega) only [go_sem,Φa,hP,hops]
 intro bo
 try refine stI ?_
 try simp (dsimp:=false)(disch:=omega) only [go_sem,Φa,hP,hops]
 intro bf
 try refine stI ?_
 try simp (dsimp:=false)(disch:=omega) only [go_sem,Φa,hP,hops]
 intro bd
 try refine stI ?_
 try simp (dsimp:=false)(disch:=omega) only [go_sem,Φa,hP,hops]
 intro b8
 try refine stI ?_
 try simp (dsimp:=false)(disch:=omega) only [go_sem,Φa,hP,hops]
 refine hK1 _ _ ?_
 try clear hK1 K1
 refine SX.seq_k fun K2 hK2=>?_
 refine SX.region_d [some 20,some 21,some 22,some 23,some 24,some 10] rfl (fun ops hops=>?_)
 unfold Dsts at hops
 simp (dsimp:=false)(disch:=omega) only [go_sem,Φa,hP,hops]
 refine ⟨_,Cell.at 3 rfl (show (Ord.cells _)[1]? = _ from rfl),?_⟩
 try refine stI ?_
 try simp (dsimp:=false)(disch:=omega) only [go_sem,Φa,hP,hops]
 refine ⟨.int .u8 (vG g o.x),Cell.at 4 rfl (gV hx),?_⟩
 try refine stI ?_
 try simp (dsimp:=false)(disch:=omega) only [go_sem,Φa,hP,hops]
 refine hK2 _ _ ?_
 try clear hK2 K2
 refine SX.live [4,5,6,7,8,10] (fun T1 hT1=>?_)
 simp only [forall_mem_cons',forall_mem_nil',go_sem,Φa,hP] at hT1
 obtain ⟨h1_4,h1_5,h1_6,h1_7,h1_8,h1_10⟩ := hT1
 refine SX.seq_k fun K3 hK3=>?_
 refine SX.region_d [some 25,some 26,some 27,some 11] rfl (fun ops hops=>?_)
 unfold Dsts at hops
 simp (dsimp:=false)(disch:=omega) only [go_sem,Φa,hP,h1_4,h1_5,h1_6,h1_7,h1_8,h1_10,hops]
 refine ⟨_,Cell.at 4 rfl (show (GM.cells _ _ _ _)[16]? = _ from rfl),?_⟩
 try refine stI ?_
 try simp (dsimp:=false)(disch:=omega) only [go_sem,Φa,hP,h1_4,h1_5,h1_6,h1_7,h1_8,h1_10,hops]
 refine hK3 _ _ ?_
 try clear hK3 K3
 refine SX.seq_k fun K4 hK4=>?_
 refine SX.region_d [some 28,some 29,some 30,some 31,some 12] rfl (fun ops hops=>?_)
 unfold Dsts at hops
 simp (dsimp:=false)(disch:=omega) only [go_sem,Φa,hP,h1_4,h1_5,h1_6,h1_7,h1_8,h1_10,hops]
 refine ⟨_,Cell.at 3 rfl (show (Ord.cells _)[1]? = _ from rfl),?_⟩
 try refine stI ?_
 try simp (dsimp:=false)(disch:=omega) only [go_sem,Φa,hP,h1_4,h1_5,h1_6,h1_7,h1_8,h1_10,hops]
 refine hK4 _ _ ?_
 try clear hK4 K4
 refine SX.live [4,5,6,7,8,10,11,12] (fun T2 hT2=>?_)
 simp only [forall_mem_cons',forall_mem_nil',go_sem,Φa,hP,h1_4,h1_5,h1_6,h1_7,h1_8,h1_10] at hT2
 obtain ⟨h2_4,h2_5,h2_6,h2_7,h2_8,h2_10,h2_11,h2_12⟩ := hT2
 clear h1_4 h1_5 h1_6 h1_7 h1_8 h1_10 T1
 refine SX.live [4,5,6,7,8,10,11,12] (fun T3 hT3=>?_)
 simp only [forall_mem_cons',forall_mem_nil',go_sem,Φa,hP,h2_4,h2_5,h2_6,h2_7,h2_8,h2_10,h2_11,h2_12] at hT3
 obtain ⟨h3_4,h3_5,h3_6,h3_7,h3_8,h3_10,h3_11,h3_12⟩ := hT3
 clear h2_4 h2_5 h2_6 h2_7 h2_8 h2_10 h2_11 h2_12 T2
 refine SX.join (fun (ss : (Slot)) T L'=>(fun (q3 : Slot)=>T 4 = T3 4 ∧ T 8 = T3 8 ∧ L' = some (b8,.cells #[.int .u8 0,.int .u8 0,.int .u8 0,.int .u8 0,.int .u8 0,.int .u8 0,.int .u8 0,.int .u8 0,.int .u8 0,.int .u8 0,.int .u8 0,.int .u8 0,.int .u8 0,.int .u8 0,.int .u8 0,.int .u8 0,.int .u16 0,.int .u16 0,.slice none 0 0,.int .u8 0,.int .u8 0,.slice none 0 0,.slice none 0 0] 27 (0,0)) :: some (bd,.cells d.cells.toArray 38 (0,0)) :: some (bf,.cells (f.cells fv).toArray 30 (0,0)) :: some (bo,.cells o.cells.toArray 60 (0,0)) :: some (bg,.cells (GM.cells (doG g o f d).2 (.slice A1 g.st.length c1) (.slice A2 g.pg.length c2) (.slice A3 g.mm.length c3)).toArray 27 (0,0)) :: s1 :: s2 :: q3 :: L ∧ ((doG g o f d).1 = 1 ∧ Rows (doG g o f d).2 (.slice A1 g.st.length c1) (.slice A2 g.pg.length c2) (.slice A3 g.mm.length c3) s1 s2 q3)) (ss)) (fun K5 hK5=>?_) ?_
 ·simp only [h3_4,h3_8] at hK5
  refine SX.seq_k fun K6 hK6=>?_
  refine SX.region_d [some 32,some 33] rfl (fun ops hops=>?_)
  unfold Dsts at hops
  simp (dsimp:=false)(disch:=omega) only [go_sem,Φa,hP,h3_4,h3_5,h3_6,h3_7,h3_8,h3_10,h3_11,h3_12,hops]
  refine ⟨_,Cell.at 3 rfl (show (Ord.cells _)[0]? = _ from rfl),?_⟩
  try refine stI ?_
  try simp (dsimp:=false)(disch:=omega) only [go_sem,Φa,hP,h3_4,h3_5,h3_6,h3_7,h3_8,h3_10,h3_11,h3_12,hops]
  refine hK6 _ _ ?_
  try clear hK6 K6
  refine SX.block ?_
  refine SX.seq_k fun K7 hK7=>?_
  refine SX.region_d [some 35,some 34] rfl (fun ops hops=>?_)
  unfold Dsts at hops
  simp (dsimp:=false)(disch:=omega) only [go_sem,Φa,hP,h3_4,h3_5,h3_6,h3_7,h3_8,h3_10,h3_11,h3_12,hops]
  repeat' ((first | refine And.intro (by omega) ?_ | fail); try refine stI ?_; try simp (dsimp:=false)(disch:=omega) only [go_sem,Φa,hP,h3_4,h3_5,h3_6,h3_7,h3_8,h3_10,h3_11,h3_12,hops])
  refine hK7 _ _ ?_
  try clear hK7 K7
  refine SX.cond_k fun X8 Y8 hX8 hY8=>?_
  simp (dsimp:=false)(disch:=omega) only [go_sem,Φa,hP,h3_4,h3_5,h3_6,h3_7,h3_8,h3_10,h3_11,h3_12,condVC]
  refine ⟨fun hc34=>hX8 ?_,fun hc34=>hY8 ?_⟩
  ·clear hX8 hY8 X8 Y8
   have hD : doG g o f d = (1,({ g with V := g.V.set o.x g.dl } : GM)) := by
    unfold doG
    rw [show o.op = 23 by omega]
    rfl
   
   refine SX.region_d [some 36,some 37,some 38,some 39,some 40,some 41,none] rfl (fun ops hops=>?_)
   unfold Dsts at hops
   simp (dsimp:=false)(disch:=omega) only [go_sem,Φa,hP,h3_4,h3_5,h3_6,h3_7,h3_8,h3_10,h3_11,h3_12,hops]
   refine ⟨_,Cell.at 3 rfl (show (Ord.cells _)[1]? = _ from rfl),?_⟩
   try refine stI ?_
   try simp (dsimp:=false)(disch:=omega) only [go_sem,Φa,hP,h3_4,h3_5,h3_6,h3_7,h3_8,h3_10,h3_11,h3_12,hops]
   refine ⟨_,Cell.at 4 rfl (show (GM.cells _ _ _ _)[19]? = _ from rfl),?_⟩
   try refine stI ?_
   try simp (dsimp:=false)(disch:=omega) only [go_sem,Φa,hP,h3_4,h3_5,h3_6,h3_7,h3_8,h3_10,h3_11,h3_12,hops]
   refine ⟨4,_,_,_,rfl,(by rw [gcells_length]; omega),.inr (Nat.zero_le _),?_⟩
   try refine stI ?_
   try simp (dsimp:=false)(disch:=omega) only [go_sem,Φa,hP,h3_4,h3_5,h3_6,h3_7,h3_8,h3_10,h3_11,h3_12,hops]
   rw [gV_set hg.V hx]
   refine hK5 s3 _ (some (b8,.cells #[.int .u8 0,.int .u8 0,.int .u8 0,.int .u8 0,.int .u8 0,.int .u8 0,.int .u8 0,.int .u8 0,.int .u8 0,.int .u8 0,.int .u8 0,.int .u8 0,.int .u8 0,.int .u8 0,.int .u8 0,.int .u8 0,.int .u16 0,.int .u16 0,.slice none 0 0,.int .u8 0,.int .u8 0,.slice none 0 0,.slice none 0 0] 27 (0,0)) :: some (bd,.cells d.cells.toArray 38 (0,0)) :: some (bf,.cells (f.cells fv).toArray 30 (0,0)) :: some (bo,.cells o.cells.toArray 60 (0,0)) :: some (bg,.cells (GM.cells (doG g o f d).2 (.slice A1 g.st.length c1) (.slice A2 g.pg.length c2) (.slice A3 g.mm.length c3)).toArray 27 (0,0)) :: s1 :: s2 :: s3 :: L) _ (by rw [hD]; exact Less.refl _) ?_
   try dsimp only
   refine ⟨?_,?_,?_,?_⟩
   ·simp (dsimp:=false)(disch:=omega) only [go_sem,Φa,hP,h3_4,h3_5,h3_6,h3_7,h3_8,h3_10,h3_11,h3_12]
   ·simp (dsimp:=false)(disch:=omega) only [go_sem,Φa,hP,h3_4,h3_5,h3_6,h3_7,h3_8,h3_10,h3_11,h3_12]
   ·rfl
   exact ⟨by rw [hD],by rw [hD]; exact hr.of rfl rfl rfl⟩
  clear hX8 hY8 X8 Y8
  refine SX.seq_k fun K9 hK9=>?_
  refine SX.region_d [some 43,some 42] rfl (fun ops hops=>?_)
  unfold Dsts at hops
  simp (dsimp:=false)(disch:=omega) only [go_sem,Φa,hP,h3_4,h3_5,h3_6,h3_7,h3_8,h3_10,h3_11,h3_12,hops]
  repeat' ((first | refine And.intro (by omega) ?_ | fail); try refine stI ?_; try simp (dsimp:=false)(disch:=omega) only [go_sem,Φa,hP,h3_4,h3_5,h3_6,h3_7,h3_8,h3_10,h3_11,h3_12,hops])
  refine hK9 _ _ ?_
  try clear hK9 K9
  refine SX.cond_k fun X10 Y10 hX10 hY10=>?_
  simp (dsimp:=false)(disch:=omega) only [go_sem,Φa,hP,h3_4,h3_5,h3_6,h3_7,h3_8,h3_10,h3_11,h3_12,condVC]
  refine ⟨fun hc42=>hX10 ?_,fun hc42=>hY10 ?_⟩
  ·clear hX10 hY10 X10 Y10
   refine SX.seq_k fun K11 hK11=>?_
   refine SX.seq_k fun K12 hK12=>?_
   refine SX.region_d [some 44,some 45,some 46] rfl (fun ops hops=>?_)
   unfold Dsts at hops
   simp (dsimp:=false)(disch:=omega) only [go_sem,Φa,hP,h3_4,h3_5,h3_6,h3_7,h3_8,h3_10,h3_11,h3_12,hops]
   refine ⟨_,Cell.at 1 rfl (show (Feed.cells _)[2]? = _ from rfl),?_⟩
   try refine stI ?_
   try simp (dsimp:=false)(disch:=omega) only [go_sem,Φa,hP,h3_4,h3_5,h3_6,h3_7,h3_8,h3_10,h3_11,h3_12,hops]
   refine hK12 _ _ ?_
   try clear hK12 K12
   refine SX.live [4,5,7,8,46] (fun T4 hT4=>?_)
   simp only [forall_mem_cons',forall_mem_nil',go_sem,Φa,hP,h3_4,h3_5,h3_6,h3_7,h3_8,h3_10,h3_11,h3_12] at hT4
   obtain ⟨h4_4,h4_5,h4_7,h4_8,h4_46⟩ := hT4
   clear h3_4 h3_5 h3_6 h3_7 h3_8 h3_10 h3_11 h3_12 T3
   refine SX.cond_k fun X13 Y13 hX13 hY13=>?_
   simp (dsimp:=false)(disch:=omega) only [go_sem,Φa,hP,h4_4,h4_5,h4_7,h4_8,h4_46,condVC]
   refine ⟨fun hc46=>hX13 ?_,fun hc46=>hY13 ?_⟩
   ·clear hX13 hY13 X13 Y13
    refine SX.seq_k fun K14 hK14=>?_
    refine SX.region_d [some 47,none,some 9] rfl (fun ops hops=>?_)
    unfold Dsts at hops
    simp (dsimp:=false)(disch:=omega) only [go_sem,Φa,hP,h4_4,h4_5,h4_7,h4_8,h4_46,hops]
    (iterate 23 refine ⟨_,Cell.at 4 rfl rfl,?_⟩)
    try refine stI ?_
    try simp (dsimp:=false)(disch:=omega) only [go_sem,Φa,hP,h4_4,h4_5,h4_7,h4_8,h4_46,hops]
    refine ⟨0,_,_,_,rfl,(by decide),.inr (by decide),?_⟩
    try refine stI ?_
    try simp (dsimp:=false)(disch:=omega) only [go_sem,Φa,hP,h4_4,h4_5,h4_7,h4_8,h4_46,hops]
    refine hK14 _ _ ?_
    try clear hK14 K14
    refine SX.ret ?_
    simp only [andThen_normal,andThen_ret,andThen_exit,inBlk_normal,inBlk_ret,inBlk_exit,Nat.reduceEqDiff,if_true,if_false,↓reduceIte,retQ_ret]
    try simp only [res0,res1,res2,res3,stK_e,resX,resK,oneOr,ld_ptr,loadVC,loadN,List.nil_append,List.cons_append,Nat.reduceAdd,Nat.add_zero,Nat.zero_add,Addr.add_lit,Addr.add_zero',add_addS,T.elA_27,T.lay_27,T.szA_27,T.zr_27,Tryz.underlying27,go_sem,Φa,hP,h4_4,h4_5,h4_7,h4_8,h4_46]
    refine ⟨_,_,less5d,⟨_,Cell.at 0 rfl rfl,_,Cell.at 0 rfl rfl,_,Cell.at 0 rfl rfl,_,Cell.at 0 rfl rfl,_,Cell.at 0 rfl rfl,_,Cell.at 0 rfl rfl,_,Cell.at 0 rfl rfl,_,Cell.at 0 rfl rfl,_,Cell.at 0 rfl rfl,_,Cell.at 0 rfl rfl,_,Cell.at 0 rfl rfl,_,Cell.at 0 rfl rfl,_,Cell.at 0 rfl rfl,_,Cell.at 0 rfl rfl,_,Cell.at 0 rfl rfl,_,Cell.at 0 rfl rfl,_,Cell.at 0 rfl rfl,_,Cell.at 0 rfl rfl,_,Cell.at 0 rfl rfl,_,Cell.at 0 rfl rfl,_,Cell.at 0 rfl rfl,_,Cell.at 0 rfl rfl,_,Cell.at 0 rfl rfl,rfl⟩,?_⟩
    have hD : doG g o f d = (2,g) := by
     unfold doG
     rw [show o.op = 24 by omega]
     show keyG g o d = _
     unfold keyG
     rw [if_pos (by omega)]
    rw [hD]
    exact ⟨g,_,_,_,s1,s2,s3,rfl,rfl,hr,fun h=>absurd (show (2 : Int) = 1 from h) (by decide)⟩
   clear hX13 hY13 X13 Y13
   refine SX.skip ?_
   try simp only [andThen_normal,andThen_ret,andThen_exit,inBlk_normal,inBlk_ret,inBlk_exit,Nat.reduceEqDiff,if_true,if_false,↓reduceIte]
   refine hK11 _ _ ?_
   try clear hK11 K11
   have hD : doG g o f d = (1,({ g with V := g.V.set o.x (IntKind.u8.wrap d.key) } : GM)) := by
    unfold doG
    rw [show o.op = 24 by omega]
    show keyG g o d = _
    unfold keyG
    rw [if_neg (by omega)]
    rfl
     
   refine SX.region_d [some 48,some 49,some 50,some 51,some 52,some 53,some 54,none] rfl (fun ops hops=>?_)
   unfold Dsts at hops
   simp (dsimp:=false)(disch:=omega) only [go_sem,Φa,hP,h4_4,h4_5,h4_7,h4_8,h4_46,hops]
   refine ⟨_,Cell.at 3 rfl (show (Ord.cells _)[1]? = _ from rfl),?_⟩
   try refine stI ?_
   try simp (dsimp:=false)(disch:=omega) only [go_sem,Φa,hP,h4_4,h4_5,h4_7,h4_8,h4_46,hops]
   refine ⟨_,Cell.at 1 rfl (show (Feed.cells _)[2]? = _ from rfl),?_⟩
   try refine stI ?_
   try simp (dsimp:=false)(disch:=omega) only [go_sem,Φa,hP,h4_4,h4_5,h4_7,h4_8,h4_46,hops]
   refine ⟨4,_,_,_,rfl,(by rw [gcells_length]; omega),.inr (Nat.zero_le _),?_⟩
   try refine stI ?_
   try simp (dsimp:=false)(disch:=omega) only [go_sem,Φa,hP,h4_4,h4_5,h4_7,h4_8,h4_46,hops]
   rw [gV_set hg.V hx]
   refine hK5 s3 _ (some (b8,.cells #[.int .u8 0,.int .u8 0,.int .u8 0,.int .u8 0,.int .u8 0,.int .u8 0,.int .u8 0,.int .u8 0,.int .u8 0,.int .u8 0,.int .u8 0,.int .u8 0,.int .u8 0,.int .u8 0,.int .u8 0,.int .u8 0,.int .u16 0,.int .u16 0,.slice none 0 0,.int .u8 0,.int .u8 0,.slice none 0 0,.slice none 0 0] 27 (0,0)) :: some (bd,.cells d.cells.toArray 38 (0,0)) :: some (bf,.cells (f.cells fv).toArray 30 (0,0)) :: some (bo,.cells o.cells.toArray 60 (0,0)) :: some (bg,.cells (GM.cells (doG g o f d).2 (.slice A1 g.st.length c1) (.slice A2 g.pg.length c2) (.slice A3 g.mm.length c3)).toArray 27 (0,0)) :: s1 :: s2 :: s3 :: L) _ (by rw [hD]; exact Less.refl _) ?_
   try dsimp only
   refine ⟨?_,?_,?_,?_⟩
   ·simp (dsimp:=false)(disch:=omega) only [go_sem,Φa,hP,h4_4,h4_5,h4_7,h4_8,h4_46]
   ·simp (dsimp:=false)(disch:=omega) only [go_sem,Φa,hP,h4_4,h4_5,h4_7,h4_8,h4_46]
   ·rfl
   exact ⟨by rw [hD],by rw [hD]; exact hr.of rfl rfl rfl⟩
  clear hX10 hY10 X10 Y10
  refine SX.seq_k fun K15 hK15=>?_
  refine SX.region_d [some 56,some 55] rfl (fun ops hops=>?_)
  unfold Dsts at hops
  simp (dsimp:=false)(disch:=omega) only [go_sem,Φa,hP,h3_4,h3_5,h3_6,h3_7,h3_8,h3_10,h3_11,h3_12,hops]
  repeat' ((first | refine And.intro (by omega) ?_ | fail); try refine stI ?_; try simp (dsimp:=false)(disch:=omega) only [go_sem,Φa,hP,h3_4,h3_5,h3_6,h3_7,h3_8,h3_10,h3_11,h3_12,hops])
  refine hK15 _ _ ?_
  try clear hK15 K15
  refine SX.cond_k fun X16 Y16 hX16 hY16=>?_
  simp (dsimp:=false)(disch:=omega) only [go_sem,Φa,hP,h3_4,h3_5,h3_6,h3_7,h3_8,h3_10,h3_11,h3_12,condVC]
  refine ⟨fun hc55=>hX16 ?_,fun hc55=>hY16 ?_⟩
  ·clear hX16 hY16 X16 Y16
   have hD : doG g o f d = (1,({ g with dl := vG g o.x } : GM)) := by
    unfold doG
    rw [show o.op = 25 by omega]
    rfl
     
   refine SX.region_d [some 57,some 58,none] rfl (fun ops hops=>?_)
   unfold Dsts at hops
   simp (dsimp:=false)(disch:=omega) only [go_sem,Φa,hP,h3_4,h3_5,h3_6,h3_7,h3_8,h3_10,h3_11,h3_12,hops]
   refine ⟨4,_,_,_,rfl,(by rw [gcells_length]; omega),.inr (Nat.zero_le _),?_⟩
   try refine stI ?_
   try simp (dsimp:=false)(disch:=omega) only [go_sem,Φa,hP,h3_4,h3_5,h3_6,h3_7,h3_8,h3_10,h3_11,h3_12,hops]
   refine hK5 s3 _ (some (b8,.cells #[.int .u8 0,.int .u8 0,.int .u8 0,.int .u8 0,.int .u8 0,.int .u8 0,.int .u8 0,.int .u8 0,.int .u8 0,.int .u8 0,.int .u8 0,.int .u8 0,.int .u8 0,.int .u8 0,.int .u8 0,.int .u8 0,.int .u16 0,.int .u16 0,.slice none 0 0,.int .u8 0,.int .u8 0,.slice none 0 0,.slice none 0 0] 27 (0,0)) :: some (bd,.cells d.cells.toArray 38 (0,0)) :: some (bf,.cells (f.cells fv).toArray 30 (0,0)) :: some (bo,.cells o.cells.toArray 60 (0,0)) :: some (bg,.cells (GM.cells (doG g o f d).2 (.slice A1 g.st.length c1) (.slice A2 g.pg.length c2) (.slice A3 g.mm.length c3)).toArray 27 (0,0)) :: s1 :: s2 :: s3 :: L) _ (by rw [hD]; exact Less.refl _) ?_
   try dsimp only
   refine ⟨?_,?_,?_,?_⟩
   ·simp (dsimp:=false)(disch:=omega) only [go_sem,Φa,hP,h3_4,h3_5,h3_6,h3_7,h3_8,h3_10,h3_11,h3_12]
   ·simp (dsimp:=false)(disch:=omega) only [go_sem,Φa,hP,h3_4,h3_5,h3_6,h3_7,h3_8,h3_10,h3_11,h3_12]
   ·rfl
   exact ⟨by rw [hD],by rw [hD]; exact hr.of rfl rfl rfl⟩
  clear hX16 hY16 X16 Y16
  refine SX.seq_k fun K17 hK17=>?_
  refine SX.region_d [some 60,some 59] rfl (fun ops hops=>?_)
  unfold Dsts at hops
  simp (dsimp:=false)(disch:=omega) only [go_sem,Φa,hP,h3_4,h3_5,h3_6,h3_7,h3_8,h3_10,h3_11,h3_12,hops]
  repeat' ((first | refine And.intro (by omega) ?_ | fail); try refine stI ?_; try simp (dsimp:=false)(disch:=omega) only [go_sem,Φa,hP,h3_4,h3_5,h3_6,h3_7,h3_8,h3_10,h3_11,h3_12,hops])
  refine hK17 _ _ ?_
  try clear hK17 K17
  refine SX.live [4,6,8,10,11,12,33,59] (fun T5 hT5=>?_)
  simp only [forall_mem_cons',forall_mem_nil',go_sem,Φa,hP,h3_4,h3_5,h3_6,h3_7,h3_8,h3_10,h3_11,h3_12] at hT5
  obtain ⟨h5_4,h5_6,h5_8,h5_10,h5_11,h5_12,h5_33,h5_59⟩ := hT5
  clear h3_4 h3_5 h3_6 h3_7 h3_8 h3_10 h3_11 h3_12 T3
  refine SX.cond_k fun X18 Y18 hX18 hY18=>?_
  simp (dsimp:=false)(disch:=omega) only [go_sem,Φa,hP,h5_4,h5_6,h5_8,h5_10,h5_11,h5_12,h5_33,h5_59,condVC]
  refine ⟨fun hc59=>hX18 ?_,fun hc59=>hY18 ?_⟩
  ·clear hX18 hY18 X18 Y18
   have hD : doG g o f d = (1,({ g with sd := vG g o.x } : GM)) := by
    unfold doG
    rw [show o.op = 26 by omega]
    rfl
      
   refine SX.region_d [some 61,some 62,none] rfl (fun ops hops=>?_)
   unfold Dsts at hops
   simp (dsimp:=false)(disch:=omega) only [go_sem,Φa,hP,h5_4,h5_6,h5_8,h5_10,h5_11,h5_12,h5_33,h5_59,hops]
   refine ⟨4,_,_,_,rfl,(by rw [gcells_length]; omega),.inr (Nat.zero_le _),?_⟩
   try refine stI ?_
   try simp (dsimp:=false)(disch:=omega) only [go_sem,Φa,hP,h5_4,h5_6,h5_8,h5_10,h5_11,h5_12,h5_33,h5_59,hops]
   refine hK5 s3 _ (some (b8,.cells #[.int .u8 0,.int .u8 0,.int .u8 0,.int .u8 0,.int .u8 0,.int .u8 0,.int .u8 0,.int .u8 0,.int .u8 0,.int .u8 0,.int .u8 0,.int .u8 0,.int .u8 0,.int .u8 0,.int .u8 0,.int .u8 0,.int .u16 0,.int .u16 0,.slice none 0 0,.int .u8 0,.int .u8 0,.slice none 0 0,.slice none 0 0] 27 (0,0)) :: some (bd,.cells d.cells.toArray 38 (0,0)) :: some (bf,.cells (f.cells fv).toArray 30 (0,0)) :: some (bo,.cells o.cells.toArray 60 (0,0)) :: some (bg,.cells (GM.cells (doG g o f d).2 (.slice A1 g.st.length c1) (.slice A2 g.pg.length c2) (.slice A3 g.mm.length c3)).toArray 27 (0,0)) :: s1 :: s2 :: s3 :: L) _ (by rw [hD]; exact Less.refl _) ?_
   try dsimp only
   refine ⟨?_,?_,?_,?_⟩
   ·simp (dsimp:=false)(disch:=omega) only [go_sem,Φa,hP,h5_4,h5_6,h5_8,h5_10,h5_11,h5_12,h5_33,h5_59]
   ·simp (dsimp:=false)(disch:=omega) only [go_sem,Φa,hP,h5_4,h5_6,h5_8,h5_10,h5_11,h5_12,h5_33,h5_59]
   ·rfl
   exact ⟨by rw [hD],by rw [hD]; exact hr.of rfl rfl rfl⟩
  clear hX18 hY18 X18 Y18
  refine SX.seq_k fun K19 hK19=>?_
  refine SX.region_d [some 64,some 63] rfl (fun ops hops=>?_)
  unfold Dsts at hops
  simp (dsimp:=false)(disch:=omega) only [go_sem,Φa,hP,h5_4,h5_6,h5_8,h5_10,h5_11,h5_12,h5_33,h5_59,hops]
  repeat' ((first | refine And.intro (by omega) ?_ | fail); try refine stI ?_; try simp (dsimp:=false)(disch:=omega) only [go_sem,Φa,hP,h5_4,h5_6,h5_8,h5_10,h5_11,h5_12,h5_33,h5_59,hops])
  refine hK19 _ _ ?_
  try clear hK19 K19
  refine SX.cond_k fun X20 Y20 hX20 hY20=>?_
  simp (dsimp:=false)(disch:=omega) only [go_sem,Φa,hP,h5_4,h5_6,h5_8,h5_10,h5_11,h5_12,h5_33,h5_59,condVC]
  refine ⟨fun hc63=>hX20 ?_,fun hc63=>hY20 ?_⟩
  ·clear hX20 hY20 X20 Y20
   have hD : doG g o f d = (1,({ g with I := IntKind.u16.wrap (g.I + vG g o.x) } : GM)) := by
    unfold doG
    rw [show o.op = 27 by omega]
    rfl
       
   refine SX.region_d [some 65,some 66,some 67,some 68,some 69,some 70,none] rfl (fun ops hops=>?_)
   unfold Dsts at hops
   simp (dsimp:=false)(disch:=omega) only [go_sem,Φa,hP,h5_4,h5_6,h5_8,h5_10,h5_11,h5_12,h5_33,h5_59,hops]
   refine ⟨_,Cell.at 4 rfl (show (GM.cells _ _ _ _)[16]? = _ from rfl),?_⟩
   try refine stI ?_
   try simp (dsimp:=false)(disch:=omega) only [go_sem,Φa,hP,h5_4,h5_6,h5_8,h5_10,h5_11,h5_12,h5_33,h5_59,hops]
   refine ⟨4,_,_,_,rfl,(by rw [gcells_length]; omega),.inr (Nat.zero_le _),?_⟩
   try refine stI ?_
   try simp (dsimp:=false)(disch:=omega) only [go_sem,Φa,hP,h5_4,h5_6,h5_8,h5_10,h5_11,h5_12,h5_33,h5_59,hops]
   refine hK5 s3 _ (some (b8,.cells #[.int .u8 0,.int .u8 0,.int .u8 0,.int .u8 0,.int .u8 0,.int .u8 0,.int .u8 0,.int .u8 0,.int .u8 0,.int .u8 0,.int .u8 0,.int .u8 0,.int .u8 0,.int .u8 0,.int .u8 0,.int .u8 0,.int .u16 0,.int .u16 0,.slice none 0 0,.int .u8 0,.int .u8 0,.slice none 0 0,.slice none 0 0] 27 (0,0)) :: some (bd,.cells d.cells.toArray 38 (0,0)) :: some (bf,.cells (f.cells fv).toArray 30 (0,0)) :: some (bo,.cells o.cells.toArray 60 (0,0)) :: some (bg,.cells (GM.cells (doG g o f d).2 (.slice A1 g.st.length c1) (.slice A2 g.pg.length c2) (.slice A3 g.mm.length c3)).toArray 27 (0,0)) :: s1 :: s2 :: s3 :: L) _ (by rw [hD]; exact Less.refl _) ?_
   try dsimp only
   refine ⟨?_,?_,?_,?_⟩
   ·simp (dsimp:=false)(disch:=omega) only [go_sem,Φa,hP,h5_4,h5_6,h5_8,h5_10,h5_11,h5_12,h5_33,h5_59]
   ·simp (dsimp:=false)(disch:=omega) only [go_sem,Φa,hP,h5_4,h5_6,h5_8,h5_10,h5_11,h5_12,h5_33,h5_59]
   ·rfl
   exact ⟨by rw [hD],by rw [hD]; exact hr.of rfl rfl rfl⟩
  clear hX20 hY20 X20 Y20
  refine SX.seq_k fun K21 hK21=>?_
  refine SX.region_d [some 72,some 71] rfl (fun ops hops=>?_)
  unfold Dsts at hops
  simp (dsimp:=false)(disch:=omega) only [go_sem,Φa,hP,h5_4,h5_6,h5_8,h5_10,h5_11,h5_12,h5_33,h5_59,hops]
  repeat' ((first | refine And.intro (by omega) ?_ | fail); try refine stI ?_; try simp (dsimp:=false)(disch:=omega) only [go_sem,Φa,hP,h5_4,h5_6,h5_8,h5_10,h5_11,h5_12,h5_33,h5_59,hops])
  refine hK21 _ _ ?_
  try clear hK21 K21
  refine SX.cond_k fun X22 Y22 hX22 hY22=>?_
  simp (dsimp:=false)(disch:=omega) only [go_sem,Φa,hP,h5_4,h5_6,h5_8,h5_10,h5_11,h5_12,h5_33,h5_59,condVC]
  refine ⟨fun hc71=>hX22 ?_,fun hc71=>hY22 ?_⟩
  ·clear hX22 hY22 X22 Y22
   have hD : doG g o f d = (1,({ g with I := f.at_.getD (vG g o.x % 16).toNat 0 } : GM)) := by
    unfold doG
    rw [show o.op = 28 by omega]
    rfl
   have hm16 : (vG g o.x).tmod 16 = vG g o.x % 16 := Int.tmod_eq_emod_of_nonneg hbx.1
   have hml16 : (vG g o.x % 16).toNat < 16 := by omega
   refine SX.region_d [some 73,some 74,some 75,some 76,some 77,some 78,none] rfl (fun ops hops=>?_)
   unfold Dsts at hops
   simp (dsimp:=false)(disch:=omega) only [go_sem,Φa,hP,h5_4,h5_6,h5_8,h5_10,h5_11,h5_12,h5_33,h5_59,hops,hm16]
   refine ⟨_,Cell.at 2 rfl (fAt (x := (vG g o.x % 16).toNat) hml16),?_⟩
   try refine stI ?_
   try simp (dsimp:=false)(disch:=omega) only [go_sem,Φa,hP,h5_4,h5_6,h5_8,h5_10,h5_11,h5_12,h5_33,h5_59,hops,hm16]
   refine ⟨4,_,_,_,rfl,(by rw [gcells_length]; omega),.inr (Nat.zero_le _),?_⟩
   try refine stI ?_
   try simp (dsimp:=false)(disch:=omega) only [go_sem,Φa,hP,h5_4,h5_6,h5_8,h5_10,h5_11,h5_12,h5_33,h5_59,hops,hm16]
   refine hK5 s3 _ (some (b8,.cells #[.int .u8 0,.int .u8 0,.int .u8 0,.int .u8 0,.int .u8 0,.int .u8 0,.int .u8 0,.int .u8 0,.int .u8 0,.int .u8 0,.int .u8 0,.int .u8 0,.int .u8 0,.int .u8 0,.int .u8 0,.int .u8 0,.int .u16 0,.int .u16 0,.slice none 0 0,.int .u8 0,.int .u8 0,.slice none 0 0,.slice none 0 0] 27 (0,0)) :: some (bd,.cells d.cells.toArray 38 (0,0)) :: some (bf,.cells (f.cells fv).toArray 30 (0,0)) :: some (bo,.cells o.cells.toArray 60 (0,0)) :: some (bg,.cells (GM.cells (doG g o f d).2 (.slice A1 g.st.length c1) (.slice A2 g.pg.length c2) (.slice A3 g.mm.length c3)).toArray 27 (0,0)) :: s1 :: s2 :: s3 :: L) _ (by rw [hD]; exact Less.refl _) ?_
   try dsimp only
   refine ⟨?_,?_,?_,?_⟩
   ·simp (dsimp:=false)(disch:=omega) only [go_sem,Φa,hP,h5_4,h5_6,h5_8,h5_10,h5_11,h5_12,h5_33,h5_59]
   ·simp (dsimp:=false)(disch:=omega) only [go_sem,Φa,hP,h5_4,h5_6,h5_8,h5_10,h5_11,h5_12,h5_33,h5_59]
   ·rfl
   exact ⟨by rw [hD],by rw [hD]; exact hr.of rfl rfl rfl⟩
  clear hX22 hY22 X22 Y22
  refine SX.seq_k fun K23 hK23=>?_
  refine SX.region_d [some 80,some 79] rfl (fun ops hops=>?_)
  unfold Dsts at hops
  simp (dsimp:=false)(disch:=omega) only [go_sem,Φa,hP,h5_4,h5_6,h5_8,h5_10,h5_11,h5_12,h5_33,h5_59,hops]
  repeat' ((first | refine And.intro (by omega) ?_ | fail); try refine stI ?_; try simp (dsimp:=false)(disch:=omega) only [go_sem,Φa,hP,h5_4,h5_6,h5_8,h5_10,h5_11,h5_12,h5_33,h5_59,hops])
  refine hK23 _ _ ?_
  try clear hK23 K23
  refine SX.cond_k fun X24 Y24 hX24 hY24=>?_
  simp (dsimp:=false)(disch:=omega) only [go_sem,Φa,hP,h5_4,h5_6,h5_8,h5_10,h5_11,h5_12,h5_33,h5_59,condVC]
  refine ⟨fun hc79=>hX24 ?_,fun hc79=>hY24 ?_⟩
  ·clear hX24 hY24 X24 Y24
   refine SX.seq_k fun K25 hK25=>?_
   have ht1 : (vG g o.x).tdiv 100 = vG g o.x / 100 := Int.tdiv_eq_ediv_of_nonneg hbx.1
   have ht2 : (vG g o.x).tdiv 10 = vG g o.x / 10 := Int.tdiv_eq_ediv_of_nonneg hbx.1
   have ht3 : (vG g o.x / 10).tmod 10 = vG g o.x / 10 % 10 := Int.tmod_eq_emod_of_nonneg (by omega)
   have ht4 : (vG g o.x).tmod 10 = vG g o.x % 10 := Int.tmod_eq_emod_of_nonneg hbx.1
   have htb : Byte (threeL g o) := fun z hz=>by
    have hv : vG g o.x = g.V.getD o.x 0 := rfl
    simp only [threeL,List.mem_cons,List.not_mem_nil,or_false,← hv] at hz
    omega
   refine SX.region_d [some 82,some 83,some 84,some 85,some 86,some 87,some 88,some 89,some 90,some 91,some 92,some 81,some 93,some 94,some 13,none,some 14] rfl (fun ops hops=>?_)
   unfold Dsts at hops
   simp (dsimp:=false)(disch:=omega) only [go_sem,Φa,hP,h5_4,h5_6,h5_8,h5_10,h5_11,h5_12,h5_33,h5_59,hops,ht1,ht2,ht3,ht4]
   (iterate 23 refine ⟨_,Cell.at 4 rfl rfl,?_⟩)
   try refine stI ?_
   try simp (dsimp:=false)(disch:=omega) only [go_sem,Φa,hP,h5_4,h5_6,h5_8,h5_10,h5_11,h5_12,h5_33,h5_59,hops,ht1,ht2,ht3,ht4]
   intro g20
   try refine stI ?_
   try simp (dsimp:=false)(disch:=omega) only [go_sem,Φa,hP,h5_4,h5_6,h5_8,h5_10,h5_11,h5_12,h5_33,h5_59,hops,ht1,ht2,ht3,ht4]
   refine SCall.mono (refWrite_spec (i := 8) hP ⟨_,_,_,rfl⟩ ⟨_,_,_,rfl⟩ hg hml rfl hr.mm (SlI.own (xs := threeL g o) 0 rfl rfl (Nat.le_refl _)) htb (show 1 ≤ 3 by decide) (show 3 ≤ 100 by decide)) ?_
   rintro v_ L_ hw
   unfold wroteR at hw
   rcases hlay : layG g (threeL g o) with _ | g'
   ·skip
    try refine stI ?_
    rw [hlay] at hw
    obtain ⟨rfl,rfl⟩ := hw
    try refine stI ?_
    try simp (dsimp:=false)(disch:=omega) only [go_sem,Φa,hP,h5_4,h5_6,h5_8,h5_10,h5_11,h5_12,h5_33,h5_59,hops,ht1,ht2,ht3,ht4]
    intro g13
    try refine stI ?_
    try simp (dsimp:=false)(disch:=omega) only [go_sem,Φa,hP,h5_4,h5_6,h5_8,h5_10,h5_11,h5_12,h5_33,h5_59,hops,ht1,ht2,ht3,ht4]
    refine ⟨rfl,rfl,0,_,_,_,rfl,Nat.le_refl 23,.inr (Nat.zero_le 0),?_⟩
    try refine stI ?_
    try simp (dsimp:=false)(disch:=omega) only [go_sem,Φa,hP,h5_4,h5_6,h5_8,h5_10,h5_11,h5_12,h5_33,h5_59,hops,ht1,ht2,ht3,ht4]
    rw [put_g rfl]
    refine hK25 _ _ ?_
    try clear hK25 K25
    refine SX.live [4,8,13,14] (fun T6 hT6=>?_)
    simp only [forall_mem_cons',forall_mem_nil',go_sem,Φa,hP,h5_4,h5_6,h5_8,h5_10,h5_11,h5_12,h5_33,h5_59] at hT6
    obtain ⟨h6_4,h6_8,h6_13,h6_14⟩ := hT6
    clear h5_4 h5_6 h5_8 h5_10 h5_11 h5_12 h5_33 h5_59 T5
    refine SX.seq_k fun K26 hK26=>?_
    refine SX.seq_k fun K27 hK27=>?_
    refine SX.region_d [some 95,some 96] rfl (fun ops hops=>?_)
    unfold Dsts at hops
    simp (dsimp:=false)(disch:=omega) only [go_sem,Φa,hP,h6_4,h6_8,h6_13,h6_14,hops]
    refine hK27 _ _ ?_
    try clear hK27 K27
    refine SX.cond_k fun X28 Y28 hX28 hY28=>?_
    simp (dsimp:=false)(disch:=omega) only [go_sem,Φa,hP,h6_4,h6_8,h6_13,h6_14,condVC]
    refine hX28 ?_
    clear hX28 hY28 X28 Y28
    refine SX.seq_k fun K29 hK29=>?_
    refine SX.region_d [some 97,none,some 9] rfl (fun ops hops=>?_)
    unfold Dsts at hops
    simp (dsimp:=false)(disch:=omega) only [go_sem,Φa,hP,h6_4,h6_8,h6_13,h6_14,hops]
    (iterate 23 refine ⟨_,Cell.at 6 rfl rfl,?_⟩)
    try refine stI ?_
    try simp (dsimp:=false)(disch:=omega) only [go_sem,Φa,hP,h6_4,h6_8,h6_13,h6_14,hops]
    refine ⟨2,_,_,_,rfl,(by decide),.inr (by decide),?_⟩
    try refine stI ?_
    try simp (dsimp:=false)(disch:=omega) only [go_sem,Φa,hP,h6_4,h6_8,h6_13,h6_14,hops]
    refine hK29 _ _ ?_
    try clear hK29 K29
    refine SX.ret ?_
    simp only [andThen_normal,andThen_ret,andThen_exit,inBlk_normal,inBlk_ret,inBlk_exit,Nat.reduceEqDiff,if_true,if_false,↓reduceIte,retQ_ret]
    try simp only [res0,res1,res2,res3,stK_e,resX,resK,oneOr,ld_ptr,loadVC,loadN,List.nil_append,List.cons_append,Nat.reduceAdd,Nat.add_zero,Nat.zero_add,Addr.add_lit,Addr.add_zero',add_addS,T.elA_27,T.lay_27,T.szA_27,T.zr_27,Tryz.underlying27,go_sem,Φa,hP,h6_4,h6_8,h6_13,h6_14]
    refine ⟨_,_,Less.drops (Less.drops less5d),⟨_,Cell.at 2 rfl rfl,_,Cell.at 2 rfl rfl,_,Cell.at 2 rfl rfl,_,Cell.at 2 rfl rfl,_,Cell.at 2 rfl rfl,_,Cell.at 2 rfl rfl,_,Cell.at 2 rfl rfl,_,Cell.at 2 rfl rfl,_,Cell.at 2 rfl rfl,_,Cell.at 2 rfl rfl,_,Cell.at 2 rfl rfl,_,Cell.at 2 rfl rfl,_,Cell.at 2 rfl rfl,_,Cell.at 2 rfl rfl,_,Cell.at 2 rfl rfl,_,Cell.at 2 rfl rfl,_,Cell.at 2 rfl rfl,_,Cell.at 2 rfl rfl,_,Cell.at 2 rfl rfl,_,Cell.at 2 rfl rfl,_,Cell.at 2 rfl rfl,_,Cell.at 2 rfl rfl,_,Cell.at 2 rfl rfl,rfl⟩,?_⟩
    have hD : doG g o f d = (7,g) := by
     unfold doG
     rw [show o.op = 29 by omega]
     show threeG g o = _
     unfold threeG
     rw [hlay]
    rw [hD]
    exact ⟨g,_,_,_,s1,s2,s3,rfl,rfl,hr,fun h=>absurd (show (7 : Int) = 1 from h) (by decide)⟩
   skip
   try refine stI ?_
   rw [hlay] at hw
   obtain ⟨q,rfl,rfl,hq⟩ := hw
   have hlf := layG_fields hlay
   try refine stI ?_
   try simp (dsimp:=false)(disch:=omega) only [go_sem,Φa,hP,h5_4,h5_6,h5_8,h5_10,h5_11,h5_12,h5_33,h5_59,hops,ht1,ht2,ht3,ht4]
   intro g13
   try refine stI ?_
   try simp (dsimp:=false)(disch:=omega) only [go_sem,Φa,hP,h5_4,h5_6,h5_8,h5_10,h5_11,h5_12,h5_33,h5_59,hops,ht1,ht2,ht3,ht4]
   refine ⟨rfl,rfl,0,_,_,_,rfl,Nat.le_refl 23,.inr (Nat.zero_le 0),?_⟩
   try refine stI ?_
   try simp (dsimp:=false)(disch:=omega) only [go_sem,Φa,hP,h5_4,h5_6,h5_8,h5_10,h5_11,h5_12,h5_33,h5_59,hops,ht1,ht2,ht3,ht4]
   rw [put_g rfl]
   refine hK25 _ _ ?_
   try clear hK25 K25
   refine SX.live [4,8,13,14] (fun T7 hT7=>?_)
   simp only [forall_mem_cons',forall_mem_nil',go_sem,Φa,hP,h5_4,h5_6,h5_8,h5_10,h5_11,h5_12,h5_33,h5_59] at hT7
   obtain ⟨h7_4,h7_8,h7_13,h7_14⟩ := hT7
   clear h5_4 h5_6 h5_8 h5_10 h5_11 h5_12 h5_33 h5_59 T5
   refine SX.seq_k fun K30 hK30=>?_
   refine SX.seq_k fun K31 hK31=>?_
   refine SX.region_d [some 95,some 96] rfl (fun ops hops=>?_)
   unfold Dsts at hops
   simp (dsimp:=false)(disch:=omega) only [go_sem,Φa,hP,h7_4,h7_8,h7_13,h7_14,hops]
   refine hK31 _ _ ?_
   try clear hK31 K31
   refine SX.cond_k fun X32 Y32 hX32 hY32=>?_
   simp (dsimp:=false)(disch:=omega) only [go_sem,Φa,hP,h7_4,h7_8,h7_13,h7_14,condVC]
   refine hY32 ?_
   clear hX32 hY32 X32 Y32
   refine SX.skip ?_
   try simp only [andThen_normal,andThen_ret,andThen_exit,inBlk_normal,inBlk_ret,inBlk_exit,Nat.reduceEqDiff,if_true,if_false,↓reduceIte]
   refine hK30 _ _ ?_
   try clear hK30 K30
   have hD : doG g o f d = (1,g') := by
    unfold doG
    rw [show o.op = 29 by omega]
    show threeG g o = _
    unfold threeG
    rw [hlay]
   refine SX.region_d [some 98,none] rfl (fun ops hops=>?_)
   unfold Dsts at hops
   simp (dsimp:=false)(disch:=omega) only [go_sem,Φa,hP,h7_4,h7_8,h7_13,h7_14,hops]
   ((iterate 23 refine ⟨_,Cell.at 0 rfl rfl,?_⟩); rw [lit_g])
   try refine stI ?_
   try simp (dsimp:=false)(disch:=omega) only [go_sem,Φa,hP,h7_4,h7_8,h7_13,h7_14,hops]
   refine ⟨rfl,rfl,6,_,_,_,rfl,Nat.le_refl 23,.inr (Nat.zero_le 0),?_⟩
   try refine stI ?_
   try simp (dsimp:=false)(disch:=omega) only [go_sem,Φa,hP,h7_4,h7_8,h7_13,h7_14,hops]
   rw [put_g rfl]
   refine hK5 q _ (some (b8,.cells #[.int .u8 0,.int .u8 0,.int .u8 0,.int .u8 0,.int .u8 0,.int .u8 0,.int .u8 0,.int .u8 0,.int .u8 0,.int .u8 0,.int .u8 0,.int .u8 0,.int .u8 0,.int .u8 0,.int .u8 0,.int .u8 0,.int .u16 0,.int .u16 0,.slice none 0 0,.int .u8 0,.int .u8 0,.slice none 0 0,.slice none 0 0] 27 (0,0)) :: some (bd,.cells d.cells.toArray 38 (0,0)) :: some (bf,.cells (f.cells fv).toArray 30 (0,0)) :: some (bo,.cells o.cells.toArray 60 (0,0)) :: some (bg,.cells (GM.cells (doG g o f d).2 (.slice A1 g.st.length c1) (.slice A2 g.pg.length c2) (.slice A3 g.mm.length c3)).toArray 27 (0,0)) :: s1 :: s2 :: q :: L) _ (by rw [hD]; exact Less.drops (Less.drop _ _)) ?_
   try dsimp only
   refine ⟨?_,?_,?_,?_⟩
   ·simp (dsimp:=false)(disch:=omega) only [go_sem,Φa,hP,h7_4,h7_8,h7_13,h7_14]
   ·simp (dsimp:=false)(disch:=omega) only [go_sem,Φa,hP,h7_4,h7_8,h7_13,h7_14]
   ·rfl
   exact ⟨by rw [hD],by rw [hD]; exact ⟨by rw [hlf]; exact hr.st,by rw [hlf]; exact hr.pg,hq⟩⟩
  clear hX24 hY24 X24 Y24
  refine SX.seq_k fun K33 hK33=>?_
  refine SX.region_d [some 100,some 99] rfl (fun ops hops=>?_)
  unfold Dsts at hops
  simp (dsimp:=false)(disch:=omega) only [go_sem,Φa,hP,h5_4,h5_6,h5_8,h5_10,h5_11,h5_12,h5_33,h5_59,hops]
  repeat' ((first | refine And.intro (by omega) ?_ | fail); try refine stI ?_; try simp (dsimp:=false)(disch:=omega) only [go_sem,Φa,hP,h5_4,h5_6,h5_8,h5_10,h5_11,h5_12,h5_33,h5_59,hops])
  refine hK33 _ _ ?_
  try clear hK33 K33
  refine SX.cond_k fun X34 Y34 hX34 hY34=>?_
  simp (dsimp:=false)(disch:=omega) only [go_sem,Φa,hP,h5_4,h5_6,h5_8,h5_10,h5_11,h5_12,h5_33,h5_59,condVC]
  refine ⟨fun hc99=>hX34 ?_,fun hc99=>hY34 ?_⟩
  ·clear hX34 hY34 X34 Y34
   refine SX.live [4,8,11,12] (fun T8 hT8=>?_)
   simp only [forall_mem_cons',forall_mem_nil',go_sem,Φa,hP,h5_4,h5_6,h5_8,h5_10,h5_11,h5_12,h5_33,h5_59] at hT8
   obtain ⟨h8_4,h8_8,h8_11,h8_12⟩ := hT8
   clear h5_4 h5_6 h5_8 h5_10 h5_11 h5_12 h5_33 h5_59 T5
   refine SX.join (fun (ss : (GM) × (Slot) × (Bool) × (Nat)) T L'=>(fun (gr : GM) (q : Slot) (wb : Bool) (g13 : Nat)=>T 15 = .pointer (some ⟨g13,0,none⟩) ∧ T 16 = .bool wb ∧ T 4 = T8 4 ∧ T 8 = T8 8 ∧ T 12 = T8 12 ∧ L' = some (g13,.cells (GM.cells gr (.slice A1 g.st.length c1) (.slice A2 g.pg.length c2) (.slice A3 g.mm.length c3)).toArray 27 (0,0)) :: some (b8,.cells #[.int .u8 0,.int .u8 0,.int .u8 0,.int .u8 0,.int .u8 0,.int .u8 0,.int .u8 0,.int .u8 0,.int .u8 0,.int .u8 0,.int .u8 0,.int .u8 0,.int .u8 0,.int .u8 0,.int .u8 0,.int .u8 0,.int .u16 0,.int .u16 0,.slice none 0 0,.int .u8 0,.int .u8 0,.slice none 0 0,.slice none 0 0] 27 (0,0)) :: some (bd,.cells d.cells.toArray 38 (0,0)) :: some (bf,.cells (f.cells fv).toArray 30 (0,0)) :: some (bo,.cells o.cells.toArray 60 (0,0)) :: some (bg,.cells (GM.cells g (.slice A1 g.st.length c1) (.slice A2 g.pg.length c2) (.slice A3 g.mm.length c3)).toArray 27 (0,0)) :: s1 :: s2 :: q :: L ∧ (RowI .u8 5 (.slice A3 g.mm.length c3) gr.mm q ∧ layG g (g.V.take (o.x + 1)) = (if wb = true then some gr else none) ∧ (wb = false → gr = g))) (ss.1) (ss.2.1) (ss.2.2.1) (ss.2.2.2)) (fun K35 hK35=>?_) ?_
   ·simp only [h8_4,h8_8,h8_12] at hK35
    have hc16 : cutA (some ⟨bg,0,none⟩) 1 16 0 = some ⟨bg,0,none⟩ := cutV (by omega)
    have htb : Byte (g.V.take (o.x + 1)) := fun z hz=>hg.Vb z (List.mem_of_mem_take hz)
    have htl : (g.V.take (o.x + 1)).length = o.x + 1 := by rw [List.length_take,hg.V]; omega
    have hto : ((o.x : Int) + 1).toNat = o.x + 1 := by omega
    refine SX.tg_d (M := [some (bg,.cells (GM.cells g (.slice A1 g.st.length c1) (.slice A2 g.pg.length c2) (.slice A3 g.mm.length c3)).toArray 27 (0,0))]) (.q 0 (.q 1 (.q 2 (.q 3 (.q 4 (.e 5 (.q 6 (.q 7 (.q 8 (.e 9 (.e 10 (.q 11 (.nil)) (.z)) (.z))))) (.e 9 (.e 5 (.q 6 (.q 7 (.q 8 (.e 10 (.q 11 (.nil)) (.z))))) (.z)) (.z)))))))) (by exact lessB1) (hP ▸ T.mixed) (by kernel_rfl) [some 102,some 103,some 104,some 105,some 106,some 107,some 101,some 108,some 109,some 15,none,some 16] rfl (fun ops hops hopl=>?_)
    unfold Dsts at hops
    simp (dsimp:=false)(disch:=omega) only [go_sem,Φa,hP,h8_4,h8_8,h8_11,h8_12,hops,hopl,hc16,Nat.sub_zero,hto]
    (iterate 23 refine ⟨_,Cell.at 0 rfl rfl,?_⟩)
    try refine stI ?_
    try simp (dsimp:=false)(disch:=omega) only [go_sem,Φa,hP,h8_4,h8_8,h8_11,h8_12,hops,hopl,hc16,Nat.sub_zero,hto]
    refine And.intro ?_ ?_
    ·try refine stI ?_
     try simp (dsimp:=false)(disch:=omega) only [go_sem,Φa,hP,h8_4,h8_8,h8_11,h8_12,hops,hopl,hc16,Nat.sub_zero,hto]
     refine SCall.mono (refWrite_spec (i := 7) hP ⟨_,_,_,rfl⟩ ⟨_,_,_,rfl⟩ hg hml rfl hr.mm (sliceG (L := List.set _ 7 none) (i := 4) hg.V rfl (by omega) (by omega)) htb (by omega) (by omega)) ?_
     rintro v_ L_ hw
     obtain ⟨gr,q,wb,rfl,rfl,hq,hlay,hgw⟩ := wrote_any rfl hr.mm hw
     try refine stI ?_
     try simp (dsimp:=false)(disch:=omega) only [go_sem,Φa,hP,h8_4,h8_8,h8_11,h8_12,hops,hopl,hc16,Nat.sub_zero,hto]
     refine And.intro lessB1 ?_
     try refine stI ?_
     try simp (dsimp:=false)(disch:=omega) only [go_sem,Φa,hP,h8_4,h8_8,h8_11,h8_12,hops,hopl,hc16,Nat.sub_zero,hto]
     intro g13
     try refine stI ?_
     try simp (dsimp:=false)(disch:=omega) only [go_sem,Φa,hP,h8_4,h8_8,h8_11,h8_12,hops,hopl,hc16,Nat.sub_zero,hto]
     refine And.intro lessB2 ?_
     try refine stI ?_
     try simp (dsimp:=false)(disch:=omega) only [go_sem,Φa,hP,h8_4,h8_8,h8_11,h8_12,hops,hopl,hc16,Nat.sub_zero,hto]
     refine ⟨rfl,rfl,0,_,_,_,rfl,Nat.le_refl 23,.inr (Nat.zero_le 0),?_⟩
     try refine stI ?_
     try simp (dsimp:=false)(disch:=omega) only [go_sem,Φa,hP,h8_4,h8_8,h8_11,h8_12,hops,hopl,hc16,Nat.sub_zero,hto]
     rw [put_g rfl]
     refine And.intro lessB2 ?_
     try refine stI ?_
     try simp (dsimp:=false)(disch:=omega) only [go_sem,Φa,hP,h8_4,h8_8,h8_11,h8_12,hops,hopl,hc16,Nat.sub_zero,hto]
     refine hK35 (gr,q,wb,g13) _ (some (g13,.cells (GM.cells gr (.slice A1 g.st.length c1) (.slice A2 g.pg.length c2) (.slice A3 g.mm.length c3)).toArray 27 (0,0)) :: some (b8,.cells #[.int .u8 0,.int .u8 0,.int .u8 0,.int .u8 0,.int .u8 0,.int .u8 0,.int .u8 0,.int .u8 0,.int .u8 0,.int .u8 0,.int .u8 0,.int .u8 0,.int .u8 0,.int .u8 0,.int .u8 0,.int .u8 0,.int .u16 0,.int .u16 0,.slice none 0 0,.int .u8 0,.int .u8 0,.slice none 0 0,.slice none 0 0] 27 (0,0)) :: some (bd,.cells d.cells.toArray 38 (0,0)) :: some (bf,.cells (f.cells fv).toArray 30 (0,0)) :: some (bo,.cells o.cells.toArray 60 (0,0)) :: some (bg,.cells (GM.cells g (.slice A1 g.st.length c1) (.slice A2 g.pg.length c2) (.slice A3 g.mm.length c3)).toArray 27 (0,0)) :: s1 :: s2 :: q :: L) _ (by exact Less.refl _) ?_
     try dsimp only
     refine ⟨?_,?_,?_,?_,?_,?_,?_⟩
     ·simp (dsimp:=false)(disch:=omega) only [go_sem,Φa,hP,h8_4,h8_8,h8_11,h8_12]
      first | done | rfl | skip
     ·simp (dsimp:=false)(disch:=omega) only [go_sem,Φa,hP,h8_4,h8_8,h8_11,h8_12]
      first | done | rfl | skip
     ·simp (dsimp:=false)(disch:=omega) only [go_sem,Φa,hP,h8_4,h8_8,h8_11,h8_12]
     ·simp (dsimp:=false)(disch:=omega) only [go_sem,Φa,hP,h8_4,h8_8,h8_11,h8_12]
     ·simp (dsimp:=false)(disch:=omega) only [go_sem,Φa,hP,h8_4,h8_8,h8_11,h8_12]
     ·rfl
     exact ⟨hq,hlay,hgw⟩
    try refine stI ?_
    try simp (dsimp:=false)(disch:=omega) only [go_sem,Φa,hP,h8_4,h8_8,h8_11,h8_12,hops,hopl,hc16,Nat.sub_zero,hto]
    intro g13
    try refine stI ?_
    try simp (dsimp:=false)(disch:=omega) only [go_sem,Φa,hP,h8_4,h8_8,h8_11,h8_12,hops,hopl,hc16,Nat.sub_zero,hto]
    refine And.intro lessB2 ?_
    try refine stI ?_
    try simp (dsimp:=false)(disch:=omega) only [go_sem,Φa,hP,h8_4,h8_8,h8_11,h8_12,hops,hopl,hc16,Nat.sub_zero,hto]
    refine SCall.mono (refWrite_spec (i := 8) hP ⟨_,_,_,rfl⟩ ⟨_,_,_,rfl⟩ hg hml rfl hr.mm (sliceG (L := List.set _ 8 none) (i := 5) hg.V rfl (by omega) (by omega)) htb (by omega) (by omega)) ?_
    rintro v_ L_ hw
    obtain ⟨gr,q,wb,rfl,rfl,hq,hlay,hgw⟩ := wrote_any rfl hr.mm hw
    try refine stI ?_
    try simp (dsimp:=false)(disch:=omega) only [go_sem,Φa,hP,h8_4,h8_8,h8_11,h8_12,hops,hopl,hc16,Nat.sub_zero,hto]
    refine And.intro lessB2 ?_
    try refine stI ?_
    try simp (dsimp:=false)(disch:=omega) only [go_sem,Φa,hP,h8_4,h8_8,h8_11,h8_12,hops,hopl,hc16,Nat.sub_zero,hto]
    refine ⟨rfl,rfl,0,_,_,_,rfl,Nat.le_refl 23,.inr (Nat.zero_le 0),?_⟩
    try refine stI ?_
    try simp (dsimp:=false)(disch:=omega) only [go_sem,Φa,hP,h8_4,h8_8,h8_11,h8_12,hops,hopl,hc16,Nat.sub_zero,hto]
    rw [put_g rfl]
    refine And.intro lessB2 ?_
    try refine stI ?_
    try simp (dsimp:=false)(disch:=omega) only [go_sem,Φa,hP,h8_4,h8_8,h8_11,h8_12,hops,hopl,hc16,Nat.sub_zero,hto]
    refine hK35 (gr,q,wb,g13) _ (some (g13,.cells (GM.cells gr (.slice A1 g.st.length c1) (.slice A2 g.pg.length c2) (.slice A3 g.mm.length c3)).toArray 27 (0,0)) :: some (b8,.cells #[.int .u8 0,.int .u8 0,.int .u8 0,.int .u8 0,.int .u8 0,.int .u8 0,.int .u8 0,.int .u8 0,.int .u8 0,.int .u8 0,.int .u8 0,.int .u8 0,.int .u8 0,.int .u8 0,.int .u8 0,.int .u8 0,.int .u16 0,.int .u16 0,.slice none 0 0,.int .u8 0,.int .u8 0,.slice none 0 0,.slice none 0 0] 27 (0,0)) :: some (bd,.cells d.cells.toArray 38 (0,0)) :: some (bf,.cells (f.cells fv).toArray 30 (0,0)) :: some (bo,.cells o.cells.toArray 60 (0,0)) :: some (bg,.cells (GM.cells g (.slice A1 g.st.length c1) (.slice A2 g.pg.length c2) (.slice A3 g.mm.length c3)).toArray 27 (0,0)) :: s1 :: s2 :: q :: L) _ (by exact Less.refl _) ?_
    try dsimp only
    refine ⟨?_,?_,?_,?_,?_,?_,?_⟩
    ·simp (dsimp:=false)(disch:=omega) only [go_sem,Φa,hP,h8_4,h8_8,h8_11,h8_12]
     first | done | rfl | skip
    ·simp (dsimp:=false)(disch:=omega) only [go_sem,Φa,hP,h8_4,h8_8,h8_11,h8_12]
     first | done | rfl | skip
    ·simp (dsimp:=false)(disch:=omega) only [go_sem,Φa,hP,h8_4,h8_8,h8_11,h8_12]
    ·simp (dsimp:=false)(disch:=omega) only [go_sem,Φa,hP,h8_4,h8_8,h8_11,h8_12]
    ·simp (dsimp:=false)(disch:=omega) only [go_sem,Φa,hP,h8_4,h8_8,h8_11,h8_12]
    ·rfl
    exact ⟨hq,hlay,hgw⟩
   intro ss T9 L9 hI
   obtain ⟨gr,q,wb,g13⟩ := ss
   try dsimp only at hI 
   simp only [h8_4,h8_8,h8_12] at hI 
   obtain ⟨h9_15,h9_16,h9_4,h9_8,h9_12,hL9,⟨hq,hlay,hgw⟩⟩ := hI
   replace hL9 := hL9.symm
   subst hL9
   clear h8_4 h8_8 h8_11 h8_12 T8
   refine SX.seq_k fun K36 hK36=>?_
   refine SX.seq_k fun K37 hK37=>?_
   refine SX.region_d [some 110,some 111] rfl (fun ops hops=>?_)
   unfold Dsts at hops
   simp (dsimp:=false)(disch:=omega) only [go_sem,Φa,hP,h9_15,h9_16,h9_4,h9_8,h9_12,hops]
   refine hK37 _ _ ?_
   try clear hK37 K37
   refine SX.cond_k fun X38 Y38 hX38 hY38=>?_
   simp (dsimp:=false)(disch:=omega) only [go_sem,Φa,hP,h9_15,h9_16,h9_4,h9_8,h9_12,condVC]
   refine ⟨fun hc111=>hX38 ?_,fun hc111=>hY38 ?_⟩
   ·clear hX38 hY38 X38 Y38
    refine SX.seq_k fun K39 hK39=>?_
    obtain rfl : wb = false := by first | exact hc111 | simpa using hc111
    rw [if_neg Bool.false_ne_true] at hlay
    refine SX.region_d [some 112,none,some 9] rfl (fun ops hops=>?_)
    unfold Dsts at hops
    simp (dsimp:=false)(disch:=omega) only [go_sem,Φa,hP,h9_15,h9_16,h9_4,h9_8,h9_12,hops]
    (iterate 23 refine ⟨_,Cell.at 5 rfl rfl,?_⟩)
    try refine stI ?_
    try simp (dsimp:=false)(disch:=omega) only [go_sem,Φa,hP,h9_15,h9_16,h9_4,h9_8,h9_12,hops]
    refine ⟨1,_,_,_,rfl,(by decide),.inr (by decide),?_⟩
    try refine stI ?_
    try simp (dsimp:=false)(disch:=omega) only [go_sem,Φa,hP,h9_15,h9_16,h9_4,h9_8,h9_12,hops]
    refine hK39 _ _ ?_
    try clear hK39 K39
    refine SX.ret ?_
    simp only [andThen_normal,andThen_ret,andThen_exit,inBlk_normal,inBlk_ret,inBlk_exit,Nat.reduceEqDiff,if_true,if_false,↓reduceIte,retQ_ret]
    try simp only [res0,res1,res2,res3,stK_e,resX,resK,oneOr,ld_ptr,loadVC,loadN,List.nil_append,List.cons_append,Nat.reduceAdd,Nat.add_zero,Nat.zero_add,Addr.add_lit,Addr.add_zero',add_addS,T.elA_27,T.lay_27,T.szA_27,T.zr_27,Tryz.underlying27,go_sem,Φa,hP,h9_15,h9_16,h9_4,h9_8,h9_12]
    rw [hgw rfl] at hq
    refine ⟨_,_,Less.drops less5d,⟨_,Cell.at 1 rfl rfl,_,Cell.at 1 rfl rfl,_,Cell.at 1 rfl rfl,_,Cell.at 1 rfl rfl,_,Cell.at 1 rfl rfl,_,Cell.at 1 rfl rfl,_,Cell.at 1 rfl rfl,_,Cell.at 1 rfl rfl,_,Cell.at 1 rfl rfl,_,Cell.at 1 rfl rfl,_,Cell.at 1 rfl rfl,_,Cell.at 1 rfl rfl,_,Cell.at 1 rfl rfl,_,Cell.at 1 rfl rfl,_,Cell.at 1 rfl rfl,_,Cell.at 1 rfl rfl,_,Cell.at 1 rfl rfl,_,Cell.at 1 rfl rfl,_,Cell.at 1 rfl rfl,_,Cell.at 1 rfl rfl,_,Cell.at 1 rfl rfl,_,Cell.at 1 rfl rfl,_,Cell.at 1 rfl rfl,rfl⟩,?_⟩
    have hD : doG g o f d = (7,g) := by
     unfold doG
     rw [show o.op = 30 by omega]
     show storeG g o = _
     unfold storeG
     rw [hlay]
    rw [hD]
    exact ⟨g,_,_,_,s1,s2,q,rfl,rfl,⟨hr.st,hr.pg,hq⟩,fun h=>absurd (show (7 : Int) = 1 from h) (by decide)⟩
   clear hX38 hY38 X38 Y38
   refine SX.skip ?_
   try simp only [andThen_normal,andThen_ret,andThen_exit,inBlk_normal,inBlk_ret,inBlk_exit,Nat.reduceEqDiff,if_true,if_false,↓reduceIte]
   refine hK36 _ _ ?_
   try clear hK36 K36
   refine SX.seq_k fun K40 hK40=>?_
   obtain rfl : wb = true := by first | exact hc111 | simpa using hc111
   rw [if_pos rfl] at hlay
   have hlf := layG_fields hlay
   refine SX.region_d [some 113,none] rfl (fun ops hops=>?_)
   unfold Dsts at hops
   simp (dsimp:=false)(disch:=omega) only [go_sem,Φa,hP,h9_15,h9_16,h9_4,h9_8,h9_12,hops]
   ((iterate 23 refine ⟨_,Cell.at 0 rfl rfl,?_⟩); rw [lit_g])
   try refine stI ?_
   try simp (dsimp:=false)(disch:=omega) only [go_sem,Φa,hP,h9_15,h9_16,h9_4,h9_8,h9_12,hops]
   refine ⟨rfl,rfl,5,_,_,_,rfl,Nat.le_refl 23,.inr (Nat.zero_le 0),?_⟩
   try refine stI ?_
   try simp (dsimp:=false)(disch:=omega) only [go_sem,Φa,hP,h9_15,h9_16,h9_4,h9_8,h9_12,hops]
   rw [put_g rfl]
   refine hK40 _ _ ?_
   try clear hK40 K40
   have hD : doG g o f d = (1,behindG gr o) := by
    unfold doG
    rw [show o.op = 30 by omega]
    show storeG g o = _
    unfold storeG
    rw [hlay]
   refine SX.region_d [some 114,some 115,some 116,some 117,some 118,some 119,none] rfl (fun ops hops=>?_)
   unfold Dsts at hops
   simp (dsimp:=false)(disch:=omega) only [go_sem,Φa,hP,h9_15,h9_16,h9_4,h9_8,h9_12,hops]
   refine ⟨_,Cell.at 5 rfl rfl,?_⟩
   try refine stI ?_
   try simp (dsimp:=false)(disch:=omega) only [go_sem,Φa,hP,h9_15,h9_16,h9_4,h9_8,h9_12,hops]
   refine ⟨5,_,_,_,rfl,(by simp [GM.cells]),.inr (Nat.zero_le _),?_⟩
   try refine stI ?_
   try simp (dsimp:=false)(disch:=omega) only [go_sem,Φa,hP,h9_15,h9_16,h9_4,h9_8,h9_12,hops]
   refine hK5 q _ (some (b8,.cells #[.int .u8 0,.int .u8 0,.int .u8 0,.int .u8 0,.int .u8 0,.int .u8 0,.int .u8 0,.int .u8 0,.int .u8 0,.int .u8 0,.int .u8 0,.int .u8 0,.int .u8 0,.int .u8 0,.int .u8 0,.int .u8 0,.int .u16 0,.int .u16 0,.slice none 0 0,.int .u8 0,.int .u8 0,.slice none 0 0,.slice none 0 0] 27 (0,0)) :: some (bd,.cells d.cells.toArray 38 (0,0)) :: some (bf,.cells (f.cells fv).toArray 30 (0,0)) :: some (bo,.cells o.cells.toArray 60 (0,0)) :: some (bg,.cells (GM.cells (doG g o f d).2 (.slice A1 g.st.length c1) (.slice A2 g.pg.length c2) (.slice A3 g.mm.length c3)).toArray 27 (0,0)) :: s1 :: s2 :: q :: L) _ (by rw [hD]; exact Less.drop _ _) ?_
   try dsimp only
   refine ⟨?_,?_,?_,?_⟩
   ·simp (dsimp:=false)(disch:=omega) only [go_sem,Φa,hP,h9_15,h9_16,h9_4,h9_8,h9_12]
   ·simp (dsimp:=false)(disch:=omega) only [go_sem,Φa,hP,h9_15,h9_16,h9_4,h9_8,h9_12]
   ·rfl
   exact ⟨by rw [hD],by rw [hD]; exact ⟨by rw [show (behindG gr o).st = g.st by rw [hlf]; rfl]; exact hr.st,by rw [show (behindG gr o).pg = g.pg by rw [hlf]; rfl]; exact hr.pg,hq⟩⟩
  clear hX34 hY34 X34 Y34
  refine SX.seq_k fun K41 hK41=>?_
  refine SX.region_d [some 121,some 120] rfl (fun ops hops=>?_)
  unfold Dsts at hops
  simp (dsimp:=false)(disch:=omega) only [go_sem,Φa,hP,h5_4,h5_6,h5_8,h5_10,h5_11,h5_12,h5_33,h5_59,hops]
  repeat' ((first | refine And.intro (by omega) ?_ | fail); try refine stI ?_; try simp (dsimp:=false)(disch:=omega) only [go_sem,Φa,hP,h5_4,h5_6,h5_8,h5_10,h5_11,h5_12,h5_33,h5_59,hops])
  refine hK41 _ _ ?_
  try clear hK41 K41
  refine SX.live [4,6,8,11,12,120] (fun T10 hT10=>?_)
  simp only [forall_mem_cons',forall_mem_nil',go_sem,Φa,hP,h5_4,h5_6,h5_8,h5_10,h5_11,h5_12,h5_33,h5_59] at hT10
  obtain ⟨h10_4,h10_6,h10_8,h10_11,h10_12,h10_120⟩ := hT10
  clear h5_4 h5_6 h5_8 h5_10 h5_11 h5_12 h5_33 h5_59 T5
  refine SX.cond_k fun X42 Y42 hX42 hY42=>?_
  simp (dsimp:=false)(disch:=omega) only [go_sem,Φa,hP,h10_4,h10_6,h10_8,h10_11,h10_12,h10_120,condVC]
  refine hX42 ?_
  clear hX42 hY42 X42 Y42
  refine SX.seq_k fun K43 hK43=>?_
  refine SX.region_d [some 123,some 124,some 125,some 126,some 127,some 122,some 128,some 129,some 17,some 18] rfl (fun ops hops=>?_)
  unfold Dsts at hops
  simp (dsimp:=false)(disch:=omega) only [go_sem,Φa,hP,h10_4,h10_6,h10_8,h10_11,h10_12,h10_120,hops]
  (iterate 23 refine ⟨_,Cell.at 4 rfl rfl,?_⟩)
  try refine stI ?_
  try simp (dsimp:=false)(disch:=omega) only [go_sem,Φa,hP,h10_4,h10_6,h10_8,h10_11,h10_12,h10_120,hops]
  (iterate 18 refine ⟨_,Cell.at 2 rfl rfl,?_⟩)
  try refine stI ?_
  try simp (dsimp:=false)(disch:=omega) only [go_sem,Φa,hP,h10_4,h10_6,h10_8,h10_11,h10_12,h10_120,hops]
  refine SCall.mono (refRead_spec (n := o.x + 1) hP (by omega) hg (RowI.sl (i := 7) hr.mm rfl) (by exact SlI.cons _ (SlI.cons _ (SlI.cons _ (SlI.cons _ (SlI.cons _ (SlI.cons _ (SlI.cons _ (SlI.cons _ hf)))))))) hml hfl hfo.from_) ?_
  intro v_ L_ hl_
  try refine stI ?_
  try simp (dsimp:=false)(disch:=omega) only [go_sem,Φa,hP,h10_4,h10_6,h10_8,h10_11,h10_12,h10_120,hops]
  unfold rowR at hl_
  rcases hrow : rowG g f (o.x + 1) with _ | rows
  ·skip
   try refine stI ?_
   rw [hrow] at hl_
   obtain ⟨rfl,rfl⟩ := hl_
   try refine stI ?_
   try simp (dsimp:=false)(disch:=omega) only [go_sem,Φa,hP,h10_4,h10_6,h10_8,h10_11,h10_12,h10_120,hops]
   refine hK43 _ _ ?_
   try clear hK43 K43
   refine SX.live [4,8,12,17,18] (fun T11 hT11=>?_)
   simp only [forall_mem_cons',forall_mem_nil',go_sem,Φa,hP,h10_4,h10_6,h10_8,h10_11,h10_12,h10_120] at hT11
   obtain ⟨h11_4,h11_8,h11_12,h11_17,h11_18⟩ := hT11
   clear h10_4 h10_6 h10_8 h10_11 h10_12 h10_120 T10
   refine SX.seq_k fun K44 hK44=>?_
   refine SX.seq_k fun K45 hK45=>?_
   refine SX.region_d [some 130,some 131] rfl (fun ops hops=>?_)
   unfold Dsts at hops
   simp (dsimp:=false)(disch:=omega) only [go_sem,Φa,hP,h11_4,h11_8,h11_12,h11_17,h11_18,hops]
   refine hK45 _ _ ?_
   try clear hK45 K45
   refine SX.cond_k fun X46 Y46 hX46 hY46=>?_
   simp (dsimp:=false)(disch:=omega) only [go_sem,Φa,hP,h11_4,h11_8,h11_12,h11_17,h11_18,condVC]
   refine hX46 ?_
   clear hX46 hY46 X46 Y46
   refine SX.seq_k fun K47 hK47=>?_
   refine SX.region_d [some 132,none,some 9] rfl (fun ops hops=>?_)
   unfold Dsts at hops
   simp (dsimp:=false)(disch:=omega) only [go_sem,Φa,hP,h11_4,h11_8,h11_12,h11_17,h11_18,hops]
   (iterate 23 refine ⟨_,Cell.at 4 rfl rfl,?_⟩)
   try refine stI ?_
   try simp (dsimp:=false)(disch:=omega) only [go_sem,Φa,hP,h11_4,h11_8,h11_12,h11_17,h11_18,hops]
   refine ⟨0,_,_,_,rfl,(by decide),.inr (by decide),?_⟩
   try refine stI ?_
   try simp (dsimp:=false)(disch:=omega) only [go_sem,Φa,hP,h11_4,h11_8,h11_12,h11_17,h11_18,hops]
   refine hK47 _ _ ?_
   try clear hK47 K47
   refine SX.ret ?_
   simp only [andThen_normal,andThen_ret,andThen_exit,inBlk_normal,inBlk_ret,inBlk_exit,Nat.reduceEqDiff,if_true,if_false,↓reduceIte,retQ_ret]
   try simp only [res0,res1,res2,res3,stK_e,resX,resK,oneOr,ld_ptr,loadVC,loadN,List.nil_append,List.cons_append,Nat.reduceAdd,Nat.add_zero,Nat.zero_add,Addr.add_lit,Addr.add_zero',add_addS,T.elA_27,T.lay_27,T.szA_27,T.zr_27,Tryz.underlying27,go_sem,Φa,hP,h11_4,h11_8,h11_12,h11_17,h11_18]
   refine ⟨_,_,less5d,⟨_,Cell.at 0 rfl rfl,_,Cell.at 0 rfl rfl,_,Cell.at 0 rfl rfl,_,Cell.at 0 rfl rfl,_,Cell.at 0 rfl rfl,_,Cell.at 0 rfl rfl,_,Cell.at 0 rfl rfl,_,Cell.at 0 rfl rfl,_,Cell.at 0 rfl rfl,_,Cell.at 0 rfl rfl,_,Cell.at 0 rfl rfl,_,Cell.at 0 rfl rfl,_,Cell.at 0 rfl rfl,_,Cell.at 0 rfl rfl,_,Cell.at 0 rfl rfl,_,Cell.at 0 rfl rfl,_,Cell.at 0 rfl rfl,_,Cell.at 0 rfl rfl,_,Cell.at 0 rfl rfl,_,Cell.at 0 rfl rfl,_,Cell.at 0 rfl rfl,_,Cell.at 0 rfl rfl,_,Cell.at 0 rfl rfl,rfl⟩,?_⟩
   have hD : doG g o f d = (7,g) := by
    unfold doG
    rw [show o.op = 31 by omega]
    show fillG g o f = _
    unfold fillG
    rw [hrow]
   rw [hD]
   exact ⟨g,_,_,_,s1,s2,s3,rfl,rfl,hr,fun h=>absurd (show (7 : Int) = 1 from h) (by decide)⟩
  skip
  try refine stI ?_
  rw [hrow] at hl_
  obtain ⟨v1,q1,rfl,rfl,hr1⟩ := hl_
  have hrl := rowG_length hrow
  obtain ⟨rr,cap,junk,rfl,rfl,hcap,hjl⟩ := RowI.form2 hr1 (by omega)
  try refine stI ?_
  try simp (dsimp:=false)(disch:=omega) only [go_sem,Φa,hP,h10_4,h10_6,h10_8,h10_11,h10_12,h10_120,hops]
  refine hK43 _ _ ?_
  try clear hK43 K43
  refine SX.live [4,8,12,17,18] (fun T12 hT12=>?_)
  simp only [forall_mem_cons',forall_mem_nil',go_sem,Φa,hP,h10_4,h10_6,h10_8,h10_11,h10_12,h10_120] at hT12
  obtain ⟨h12_4,h12_8,h12_12,h12_17,h12_18⟩ := hT12
  clear h10_4 h10_6 h10_8 h10_11 h10_12 h10_120 T10
  refine SX.seq_k fun K48 hK48=>?_
  refine SX.seq_k fun K49 hK49=>?_
  refine SX.region_d [some 130,some 131] rfl (fun ops hops=>?_)
  unfold Dsts at hops
  simp (dsimp:=false)(disch:=omega) only [go_sem,Φa,hP,h12_4,h12_8,h12_12,h12_17,h12_18,hops]
  refine hK49 _ _ ?_
  try clear hK49 K49
  refine SX.cond_k fun X50 Y50 hX50 hY50=>?_
  simp (dsimp:=false)(disch:=omega) only [go_sem,Φa,hP,h12_4,h12_8,h12_12,h12_17,h12_18,condVC]
  refine hY50 ?_
  clear hX50 hY50 X50 Y50
  refine SX.skip ?_
  try simp only [andThen_normal,andThen_ret,andThen_exit,inBlk_normal,inBlk_ret,inBlk_exit,Nat.reduceEqDiff,if_true,if_false,↓reduceIte]
  refine hK48 _ _ ?_
  try clear hK48 K48
  refine SX.seq_k fun K51 hK51=>?_
  refine SX.seq_k fun K52 hK52=>?_
  refine SX.region_d [some 19] rfl (fun ops hops=>?_)
  unfold Dsts at hops
  simp (dsimp:=false)(disch:=omega) only [go_sem,Φa,hP,h12_4,h12_8,h12_12,h12_17,h12_18,hops]
  refine hK52 _ _ ?_
  try clear hK52 K52
  refine SX.block ?_
  refine SX.live [4,8,12,17,19] (fun T13 hT13=>?_)
  simp only [forall_mem_cons',forall_mem_nil',go_sem,Φa,hP,h12_4,h12_8,h12_12,h12_17,h12_18] at hT13
  obtain ⟨h13_4,h13_8,h13_12,h13_17,h13_19⟩ := hT13
  clear h12_4 h12_8 h12_12 h12_17 h12_18 T12
  refine SX.loop_k (fun (ss : (Nat)) T L'=>(fun (k : Nat)=>T 19 = .int .i64 (k : Int) ∧ T 4 = T13 4 ∧ T 8 = T13 8 ∧ T 12 = T13 12 ∧ T 17 = T13 17 ∧ L' = some (rr,.cells (SX.ints .u8 rows ++ junk).toArray 5 (0,0)) :: some (b8,.cells #[.int .u8 0,.int .u8 0,.int .u8 0,.int .u8 0,.int .u8 0,.int .u8 0,.int .u8 0,.int .u8 0,.int .u8 0,.int .u8 0,.int .u8 0,.int .u8 0,.int .u8 0,.int .u8 0,.int .u8 0,.int .u8 0,.int .u16 0,.int .u16 0,.slice none 0 0,.int .u8 0,.int .u8 0,.slice none 0 0,.slice none 0 0] 27 (0,0)) :: some (bd,.cells d.cells.toArray 38 (0,0)) :: some (bf,.cells (f.cells fv).toArray 30 (0,0)) :: some (bo,.cells o.cells.toArray 60 (0,0)) :: some (bg,.cells (GM.cells { g with V := spliceL g.V 0 (rows.take k) } (.slice A1 g.st.length c1) (.slice A2 g.pg.length c2) (.slice A3 g.mm.length c3)).toArray 27 (0,0)) :: s1 :: s2 :: s3 :: L ∧ (k ≤ o.x + 1)) (ss)) (fun (ss : (Nat))=>(fun (k : Nat)=>o.x + 1 - k) (ss)) 0 ?_ ?_
  ·try dsimp only
   refine ⟨?_,?_,?_,?_,?_,?_,?_⟩
   ·first | exact h13_19 | (rw [h13_19]; rfl) | (rw [h13_19]; simp; done)
   ·rfl
   ·rfl
   ·rfl
   ·rfl
   ·rw [splice_zero]
   exact Nat.zero_le _
  intro k T14 L14 hI K53 hK53
  try dsimp only at hI hK53
  simp only [h13_4,h13_8,h13_12,h13_17] at hI hK53
  obtain ⟨h14_19,h14_4,h14_8,h14_12,h14_17,hL14,hk⟩ := hI
  replace hL14 := hL14.symm
  subst hL14
  clear h13_4 h13_8 h13_12 h13_17 h13_19 T13
  refine SX.seq_k fun K54 hK54=>?_
  refine SX.seq_k fun K55 hK55=>?_
  refine SX.region_d [some 133,some 134,some 135] rfl (fun ops hops=>?_)
  unfold Dsts at hops
  simp (dsimp:=false)(disch:=omega) only [go_sem,Φa,hP,h14_19,h14_4,h14_8,h14_12,h14_17,hops]
  repeat' ((first | refine And.intro (by omega) ?_ | fail); try refine stI ?_; try simp (dsimp:=false)(disch:=omega) only [go_sem,Φa,hP,h14_19,h14_4,h14_8,h14_12,h14_17,hops])
  refine hK55 _ _ ?_
  try clear hK55 K55
  refine SX.cond_k fun X56 Y56 hX56 hY56=>?_
  simp (dsimp:=false)(disch:=omega) only [go_sem,Φa,hP,h14_19,h14_4,h14_8,h14_12,h14_17,condVC]
  refine ⟨fun hc135=>hX56 ?_,fun hc135=>hY56 ?_⟩
  ·clear hX56 hY56 X56 Y56
   refine SX.skip ?_
   try simp only [andThen_normal,andThen_ret,andThen_exit,inBlk_normal,inBlk_ret,inBlk_exit,Nat.reduceEqDiff,if_true,if_false,↓reduceIte]
   refine hK54 _ _ ?_
   try clear hK54 K54
   refine SX.seq_k fun K57 hK57=>?_
   refine SX.block ?_
   have hkl : k < rows.length := by omega
   have hVl : (spliceL g.V 0 (rows.take k)).length = 16 := by rw [spliceL_length (by rw [List.length_take,hg.V]; omega)]; exact hg.V
   have hsp := splice_succ (l := g.V) (i := 0) hkl (by rw [hg.V]; omega)
   rw [Nat.zero_add] at hsp
   refine SX.region_d [some 138,some 139,some 140,some 141,some 142,some 143,some 144,none] rfl (fun ops hops=>?_)
   unfold Dsts at hops
   simp (dsimp:=false)(disch:=omega) only [go_sem,Φa,hP,h14_19,h14_4,h14_8,h14_12,h14_17,hops]
   refine ⟨_,Cell.at 0 rfl (ints_app_at hkl),?_⟩
   try refine stI ?_
   try simp (dsimp:=false)(disch:=omega) only [go_sem,Φa,hP,h14_19,h14_4,h14_8,h14_12,h14_17,hops]
   refine ⟨5,_,_,_,rfl,(by rw [gcells_length]; omega),.inr (Nat.zero_le _),?_⟩
   try refine stI ?_
   try simp (dsimp:=false)(disch:=omega) only [go_sem,Φa,hP,h14_19,h14_4,h14_8,h14_12,h14_17,hops]
   rw [gV_set (g := { g with V := spliceL g.V 0 (rows.take k) }) hVl (by omega)]
   dsimp only
   rw [hsp]
   refine hK57 _ _ ?_
   try clear hK57 K57
   refine SX.live [4,8,12,17,19] (fun T15 hT15=>?_)
   simp only [forall_mem_cons',forall_mem_nil',go_sem,Φa,hP,h14_19,h14_4,h14_8,h14_12,h14_17] at hT15
   obtain ⟨h15_4,h15_8,h15_12,h15_17,h15_19⟩ := hT15
   clear h14_19 h14_4 h14_8 h14_12 h14_17 T14
   refine SX.region_d [some 136,some 137,some 19] rfl (fun ops hops=>?_)
   unfold Dsts at hops
   simp (dsimp:=false)(disch:=omega) only [go_sem,Φa,hP,h15_4,h15_8,h15_12,h15_17,h15_19,hops]
   repeat' ((first | refine And.intro (by omega) ?_ | fail); try refine stI ?_; try simp (dsimp:=false)(disch:=omega) only [go_sem,Φa,hP,h15_4,h15_8,h15_12,h15_17,h15_19,hops])
   refine hK53 (k + 1) _ (some (rr,.cells (SX.ints .u8 rows ++ junk).toArray 5 (0,0)) :: some (b8,.cells #[.int .u8 0,.int .u8 0,.int .u8 0,.int .u8 0,.int .u8 0,.int .u8 0,.int .u8 0,.int .u8 0,.int .u8 0,.int .u8 0,.int .u8 0,.int .u8 0,.int .u8 0,.int .u8 0,.int .u8 0,.int .u8 0,.int .u16 0,.int .u16 0,.slice none 0 0,.int .u8 0,.int .u8 0,.slice none 0 0,.slice none 0 0] 27 (0,0)) :: some (bd,.cells d.cells.toArray 38 (0,0)) :: some (bf,.cells (f.cells fv).toArray 30 (0,0)) :: some (bo,.cells o.cells.toArray 60 (0,0)) :: some (bg,.cells (GM.cells { g with V := spliceL g.V 0 (rows.take ((k + 1))) } (.slice A1 g.st.length c1) (.slice A2 g.pg.length c2) (.slice A3 g.mm.length c3)).toArray 27 (0,0)) :: s1 :: s2 :: s3 :: L) _ (by first | exact Less.refl _ | exact Less.drop _ _ | exact Less.drops (Less.drop _ _) | exact Less.drops (Less.drops (Less.drop _ _)) | exact Less.drops (Less.drops (Less.drops (Less.drop _ _))) | exact Less.drops (Less.drops (Less.drops (Less.drops (Less.drop _ _))))) ?_ ?_
   ·try dsimp only
    refine ⟨?_,?_,?_,?_,?_,?_,?_⟩
    ·simp (dsimp:=false)(disch:=omega) only [go_sem,Φa,hP,h15_4,h15_8,h15_12,h15_17,h15_19]
     first | done | rfl | skip
    ·simp (dsimp:=false)(disch:=omega) only [go_sem,Φa,hP,h15_4,h15_8,h15_12,h15_17,h15_19]
    ·simp (dsimp:=false)(disch:=omega) only [go_sem,Φa,hP,h15_4,h15_8,h15_12,h15_17,h15_19]
    ·simp (dsimp:=false)(disch:=omega) only [go_sem,Φa,hP,h15_4,h15_8,h15_12,h15_17,h15_19]
    ·simp (dsimp:=false)(disch:=omega) only [go_sem,Φa,hP,h15_4,h15_8,h15_12,h15_17,h15_19]
    ·rfl
    omega
   (try dsimp only); omega
  clear hX56 hY56 X56 Y56
  refine SX.exit ?_
  try simp only [andThen_normal,andThen_ret,andThen_exit,inBlk_normal,inBlk_ret,inBlk_exit,Nat.reduceEqDiff,if_true,if_false,↓reduceIte]
  refine hK51 _ _ ?_
  try clear hK51 K51
  obtain rfl : k = o.x + 1 := by omega
  have hD : doG g o f d = (1,behindG { g with V := spliceL g.V 0 rows } o) := by
   unfold doG
   rw [show o.op = 31 by omega]
   show fillG g o f = _
   unfold fillG
   rw [hrow]
  rw [List.take_of_length_le (by omega)]
  refine SX.region_d [some 145,some 146,some 147,some 148,some 149,some 150,none] rfl (fun ops hops=>?_)
  unfold Dsts at hops
  simp (dsimp:=false)(disch:=omega) only [go_sem,Φa,hP,h14_19,h14_4,h14_8,h14_12,h14_17,hops]
  refine ⟨_,Cell.at 5 rfl rfl,?_⟩
  try refine stI ?_
  try simp (dsimp:=false)(disch:=omega) only [go_sem,Φa,hP,h14_19,h14_4,h14_8,h14_12,h14_17,hops]
  refine ⟨5,_,_,_,rfl,(by simp [GM.cells]),.inr (Nat.zero_le _),?_⟩
  try refine stI ?_
  try simp (dsimp:=false)(disch:=omega) only [go_sem,Φa,hP,h14_19,h14_4,h14_8,h14_12,h14_17,hops]
  refine hK5 s3 _ (some (b8,.cells #[.int .u8 0,.int .u8 0,.int .u8 0,.int .u8 0,.int .u8 0,.int .u8 0,.int .u8 0,.int .u8 0,.int .u8 0,.int .u8 0,.int .u8 0,.int .u8 0,.int .u8 0,.int .u8 0,.int .u8 0,.int .u8 0,.int .u16 0,.int .u16 0,.slice none 0 0,.int .u8 0,.int .u8 0,.slice none 0 0,.slice none 0 0] 27 (0,0)) :: some (bd,.cells d.cells.toArray 38 (0,0)) :: some (bf,.cells (f.cells fv).toArray 30 (0,0)) :: some (bo,.cells o.cells.toArray 60 (0,0)) :: some (bg,.cells (GM.cells (doG g o f d).2 (.slice A1 g.st.length c1) (.slice A2 g.pg.length c2) (.slice A3 g.mm.length c3)).toArray 27 (0,0)) :: s1 :: s2 :: s3 :: L) _ (by rw [hD]; exact Less.drop _ _) ?_
  try dsimp only
  refine ⟨?_,?_,?_,?_⟩
  ·simp (dsimp:=false)(disch:=omega) only [go_sem,Φa,hP,h14_19,h14_4,h14_8,h14_12,h14_17]
  ·simp (dsimp:=false)(disch:=omega) only [go_sem,Φa,hP,h14_19,h14_4,h14_8,h14_12,h14_17]
  ·rfl
  exact ⟨by rw [hD],by rw [hD]; exact hr.of rfl rfl rfl⟩
 intro q3 T16 L16 hI
 try dsimp only at hI 
 simp only [h3_4,h3_8] at hI 
 obtain ⟨h16_4,h16_8,hL16,⟨hD1,hR⟩⟩ := hI
 replace hL16 := hL16.symm
 subst hL16
 clear h3_4 h3_5 h3_6 h3_7 h3_8 h3_10 h3_11 h3_12 T3
 refine SX.seq_k fun K58 hK58=>?_
 refine SX.region_d [some 151,none,some 9] rfl (fun ops hops=>?_)
 unfold Dsts at hops
 simp (dsimp:=false)(disch:=omega) only [go_sem,Φa,hP,h16_4,h16_8,hops]
 (iterate 23 refine ⟨_,Cell.at 4 rfl rfl,?_⟩)
 try refine stI ?_
 try simp (dsimp:=false)(disch:=omega) only [go_sem,Φa,hP,h16_4,h16_8,hops]
 refine ⟨0,_,_,_,rfl,(by decide),.inr (by decide),?_⟩
 try refine stI ?_
 try simp (dsimp:=false)(disch:=omega) only [go_sem,Φa,hP,h16_4,h16_8,hops]
 refine hK58 _ _ ?_
 try clear hK58 K58
 refine SX.ret ?_
 simp only [andThen_normal,andThen_ret,andThen_exit,inBlk_normal,inBlk_ret,inBlk_exit,Nat.reduceEqDiff,if_true,if_false,↓reduceIte,retQ_ret]
 try simp only [res0,res1,res2,res3,stK_e,resX,resK,oneOr,ld_ptr,loadVC,loadN,List.nil_append,List.cons_append,Nat.reduceAdd,Nat.add_zero,Nat.zero_add,Addr.add_lit,Addr.add_zero',add_addS,T.elA_27,T.lay_27,T.szA_27,T.zr_27,Tryz.underlying27,go_sem,Φa,hP,h16_4,h16_8]
 refine ⟨_,_,less5d,⟨_,Cell.at 0 rfl rfl,_,Cell.at 0 rfl rfl,_,Cell.at 0 rfl rfl,_,Cell.at 0 rfl rfl,_,Cell.at 0 rfl rfl,_,Cell.at 0 rfl rfl,_,Cell.at 0 rfl rfl,_,Cell.at 0 rfl rfl,_,Cell.at 0 rfl rfl,_,Cell.at 0 rfl rfl,_,Cell.at 0 rfl rfl,_,Cell.at 0 rfl rfl,_,Cell.at 0 rfl rfl,_,Cell.at 0 rfl rfl,_,Cell.at 0 rfl rfl,_,Cell.at 0 rfl rfl,_,Cell.at 0 rfl rfl,_,Cell.at 0 rfl rfl,_,Cell.at 0 rfl rfl,_,Cell.at 0 rfl rfl,_,Cell.at 0 rfl rfl,_,Cell.at 0 rfl rfl,_,Cell.at 0 rfl rfl,rfl⟩,?_⟩
 exact ⟨(doG g o f d).2,_,_,_,_,_,_,by rw [hD1]; rfl,rfl,hR,fun _=>rfl⟩

end Go.Proofs.YtgioegdjeodpiaaGreat
namespace Go.Proofs.YtgioegdjeodpiaaGreat
open Go.RowKit Go.SX
open Go.SX renaming ia_someH → Φa
set_option maxHeartbeats 1000000
set_option maxRecDepth 100000

theorem idx_q {i j : Nat} (hi : i < 64) (hj : j < 32) : (64 * (j : Int) + (i : Int)).tdiv 8 = ((8 * j + i / 8 : Nat) : Int) ∧ (64 * (j : Int) + (i : Int)).tmod 8 = ((i % 8 : Nat) : Int) := by
 have e : 64 * (j : Int) + (i : Int) = ((64 * j + i : Nat) : Int) := by omega
 rw [e]
 exact ⟨congrArg Nat.cast (show (64 * j + i) / 8 = 8 * j + i / 8 by omega),congrArg Nat.cast (show (64 * j + i) % 8 = i % 8 by omega)⟩
theorem putDot_put {st : Bool × List Int} {i j : Nat} (hi : i < 64) (hj : j < 32) : putDot st i j = (st.1 || pix st.2 i j,st.2.set (8 * j + i / 8) (bits .xor .u8 (st.2.getD (8 * j + i / 8) 0) (bitOf i))) := by
 rw [putDot,if_neg (by omega),Nat.mul_comm j 8]
 rfl
def tst (b : Int) (d : Nat) : Int := bits .and .u8 b ((128 : Int).fdiv (2 ^ (min d 8)))
theorem tst_fold (b : Int) (d : Nat) : bits .and .u8 b ((128 : Int).fdiv (2 ^ (min d 8))) = tst b d := rfl
theorem eachI_skip {b : Int} {x y d : Nat} {st : Bool × List Int} (hb : ∃ n : Nat,n < 256 ∧ b = (n : Int)) (hd : d < 8) (h : tst b d = 0 ∨ 64 ≤ x + d ∨ 32 ≤ y) : eachI b x y st (d + 1) = eachI b x y st d := by
 obtain ⟨n,hn,rfl⟩ := hb
 obtain ⟨h1,h2⟩ := dotD_test hn hd
 rw [eachI]
 by_cases h0 : tst (n : Int) d = 0
 ·have : dotD (n : Int) d = false := by unfold dotD; rw [tst_fold,decide_eq_true h0]; rfl
  rw [h2,← h1,this]
  rfl
 split
 ·rw [putDot,if_pos (h.resolve_left h0)]
 rfl
theorem eachI_put {b : Int} {x y d : Nat} {st : Bool × List Int} (hb : ∃ n : Nat,n < 256 ∧ b = (n : Int)) (hd : d < 8) (h : ¬ tst b d = 0) (hx : x + d < 64) (hy : y < 32) : eachI b x y st (d + 1) = ((eachI b x y st d).1 || pix (eachI b x y st d).2 (x + d) y,(eachI b x y st d).2.set (8 * y + (x + d) / 8) (bits .xor .u8 ((eachI b x y st d).2.getD (8 * y + (x + d) / 8) 0) (bitOf (x + d)))) := by
 obtain ⟨n,hn,rfl⟩ := hb
 obtain ⟨h1,h2⟩ := dotD_test hn hd
 have h3 : dotD (n : Int) d = true := by unfold dotD; rw [tst_fold,decide_eq_false h]; rfl
 rw [eachI,h2,← h1,h3,if_pos rfl,putDot_put hx hy]
theorem On_spec {Γ : Ctx} (hP : Γ.P = Tryz.prog) {L : Hp} {i j : Nat} {page : List Int} {va : Value} (hi : i < 64) (hj : j < 32) (ha : SlI .u8 (Cell Γ L) va page) (hpl : page.length = 256) :
  SCall Γ 96 #[va,(.int .i64 (i : Int)),(.int .i64 (j : Int))] L (fun v L'=>v = .bool (pix page i j) ∧ L' = L) := by
 obtain ⟨A,ca,rfl,hca',hA⟩ := ha
 refine SCall.enter (n := 22) (res1 6) (hP ▸ Tryz.func96) rfl rfl (by simp) (res1_ok rfl) ?_
 refine SX.seq_k fun K1 hK1=>?_
 refine SX.region_d [some 6] rfl (fun ops hops=>?_)
 unfold Dsts at hops
 simp (dsimp:=false)(disch:=omega) only [go_sem,Φa,hP,hops]
 refine hK1 _ _ ?_
 try clear hK1 K1
 refine SX.seq_k fun K2 hK2=>?_
 refine SX.region_d [some 8,some 9,some 10,some 11,some 7] rfl (fun ops hops=>?_)
 unfold Dsts at hops
 simp (dsimp:=false)(disch:=omega) only [go_sem,Φa,hP,hops]
 repeat' ((first | refine And.intro (by omega) ?_ | fail); try refine stI ?_; try simp (dsimp:=false)(disch:=omega) only [go_sem,Φa,hP,hops])
 refine hK2 _ _ ?_
 try clear hK2 K2
 refine SX.seq_k fun K3 hK3=>?_
 obtain ⟨q3,q4⟩ := idx_q hi hj
 have hx := getD_some (l := page) (i := 8 * j + i / 8) (by omega)
 obtain ⟨a,ha,hca⟩ := hA _ _ hx
 simp only [Nat.mul_one] at hca
 subst ha
 refine SX.quiet_d (hP ▸ T.mixed) (by kernel_rfl) [some 12,some 13,some 14,some 15,some 16,some 17,some 18,some 19,some 20,some 21,some 6] rfl (fun ops hops=>?_)
 unfold Dsts at hops
 simp (dsimp:=false)(disch:=omega) only [go_sem,Φa,hP,hops,q3,q4]
 refine ⟨_,hca,?_⟩
 try refine stI ?_
 try simp (dsimp:=false)(disch:=omega) only [go_sem,Φa,hP,hops,q3,q4]
 refine hK3 _ _ ?_
 try clear hK3 K3
 refine SX.ret ?_
 simp only [andThen_normal,andThen_ret,andThen_exit,inBlk_normal,inBlk_ret,inBlk_exit,Nat.reduceEqDiff,if_true,if_false,↓reduceIte,retQ_ret]
 try simp only [res0,res1,res2,res3,stK_e,go_sem,Φa,hP]
 exact ⟨_,L,Less.refl _,rfl,rfl,rfl⟩
theorem turn_spec {Γ : Ctx} (hP : Γ.P = Tryz.prog) {L : Hp} {i j r cap : Nat} {page : List Int} {junk : List Value} (hi : i < 64) (hj : j < 32) (hpl : page.length = 256) (hcap : 256 ≤ cap) :
  SCall Γ 97 #[(.slice (some ⟨r,0,none⟩) 256 cap),(.int .i64 (i : Int)),(.int .i64 (j : Int))] (some (r,.cells (ints .u8 page ++ junk).toArray 5 (0,0)) :: L) (fun v L'=>v = .tuple #[] ∧ L' = some (r,.cells (ints .u8 (page.set (8 * j + i / 8) (bits .xor .u8 (page.getD (8 * j + i / 8) 0) (bitOf i))) ++ junk).toArray 5 (0,0)) :: L) := by
 refine SCall.enter (n := 24) (res0) (hP ▸ Tryz.func97) rfl rfl (by simp) (res0_ok rfl) ?_
 refine SX.seq_k fun K1 hK1=>?_
 refine SX.region_d [some 7,some 8,some 9,some 10,some 6] rfl (fun ops hops=>?_)
 unfold Dsts at hops
 simp (dsimp:=false)(disch:=omega) only [go_sem,Φa,hP,hops]
 repeat' ((first | refine And.intro (by omega) ?_ | fail); try refine stI ?_; try simp (dsimp:=false)(disch:=omega) only [go_sem,Φa,hP,hops])
 refine hK1 _ _ ?_
 try clear hK1 K1
 obtain ⟨q3,q4⟩ := idx_q hi hj
 have hJ : 8 * j + i / 8 < page.length := by omega
 refine SX.drawn_d [(0,.q),(1,.q),(2,.q),(3,.q),(4,.q),(5,.q),(6,.q),(7,.q),(8,.q),(9,.q),(10,.q),(11,.q),(12,.q),(13,.t)] (fun L=>L) (hP ▸ T.mixed) (by kernel_rfl) (by exact Less.refl _) [some 11,some 12,some 13,some 14,some 15,some 16,some 17,some 18,some 19,some 20,some 21,some 22,some 23,none] rfl (fun ops hops hopl=>?_)
 unfold Dsts at hops
 simp (dsimp:=false)(disch:=omega) only [go_sem,Φa,hP,hops,hopl,q3,q4]
 refine ⟨_,Cell.at 0 rfl (ints_app_at hJ),?_⟩
 try refine stI ?_
 try simp (dsimp:=false)(disch:=omega) only [go_sem,Φa,hP,hops,hopl,q3,q4]
 refine ⟨0,_,_,_,rfl,by simp [ints_length]; omega,.inr (Nat.zero_le _),?_⟩
 try refine stI ?_
 try simp (dsimp:=false)(disch:=omega) only [go_sem,Φa,hP,hops,hopl,q3,q4]
 rw [ints_app_set hJ]
 simp only [andThen_normal,andThen_ret,andThen_exit,inBlk_normal,inBlk_ret,inBlk_exit,Nat.reduceEqDiff,if_true,if_false,↓reduceIte,retQ_normal]
 try simp only [res0,res1,res2,res3,stK_e,go_sem,Φa,hP]
 exact ⟨_,_,Less.refl _,rfl,rfl,rfl⟩
theorem refDraw_spec {Γ : Ctx} (hP : Γ.P = Tryz.prog) {L : Hp} {x y : Nat} {page rows : List Int} {va vr : Value} (hx : x < 256) (hy : y < 256) (ha : SlI .u8 (Cell Γ L) va page) (hb : SlI .u8 (Cell Γ L) vr rows) (hbyte : ByteN rows) (hpl : page.length = 256) (hrl : rows.length ≤ 15) :
  SCall Γ 88 #[va,(.int .u8 (x : Int)),(.int .u8 (y : Int)),vr] L (fun v L'=>∃ vp sp,v = .tuple #[vp,.bool (drawn page x y rows).1,.int .i64 0] ∧ L' = sp :: L ∧ RowI .u8 5 vp (drawn page x y rows).2 sp) := by
 have ha0 := ha
 have hb0 := hb
 obtain ⟨A,ca,rfl,hca',hA⟩ := ha
 obtain ⟨B,cb,rfl,hcb',hB⟩ := hb
 refine SCall.enter (n := 74) (res3 8 9 10) (hP ▸ Tryz.func88) rfl rfl (by simp) (res3_ok rfl) ?_
 refine SX.seq_k fun K1 hK1=>?_
 refine SX.region_d [some 8,some 9,some 10] rfl (fun ops hops=>?_)
 unfold Dsts at hops
 simp (dsimp:=false)(disch:=omega) only [go_sem,Φa,hP,hops]
 refine hK1 _ _ ?_
 try clear hK1 K1
 refine SX.seq_k fun K2 hK2=>?_
 refine SX.seq_k fun K3 hK3=>?_
 refine SX.region_xd [some 17,some 18,some 19,some 20,some 21,some 22,some 23,some 24] rfl (fun ops hops=>?_)
 unfold Dsts at hops
 refine RX.live [0,1,2,3] (fun T1 hT1=>?_)
 simp only [forall_mem_cons',forall_mem_nil',go_sem,Φa,hP] at hT1
 obtain ⟨h1_0,h1_1,h1_2,h1_3⟩ := hT1
 refine RX.join 8 (fun (ss : Unit) T L'=>T 24 = .bool (false) ∧ T 0 = T1 0 ∧ T 1 = T1 1 ∧ T 2 = T1 2 ∧ T 3 = T1 3 ∧ L' = L ∧ (True)) (fun K4 hK4=>?_) ?_
 ·simp only [h1_0,h1_1,h1_2,h1_3] at hK4
  simp (dsimp:=false)(disch:=omega) only [go_sem,Φa,hP,h1_0,h1_1,h1_2,h1_3,hops]
  repeat' (first | refine iteB (fun hg=>?_) (fun hg=>?_) | refine iteI (fun hg=>?_) (fun hg=>?_) | ((first | refine And.intro (by omega) ?_ | fail); try refine stI ?_; try simp (dsimp:=false)(disch:=omega) only [go_sem,Φa,hP,h1_0,h1_1,h1_2,h1_3,hops]) | fail)
  all_goals
   refine hK4 () _ (L) _ (by first | exact Less.refl _ | exact Less.drop _ _ | exact Less.drops (Less.drop _ _) | exact Less.drops (Less.drops (Less.drop _ _)) | exact Less.drops (Less.drops (Less.drops (Less.drop _ _))) | exact Less.drops (Less.drops (Less.drops (Less.drops (Less.drop _ _))))) ?_
   try dsimp only
   refine ⟨?_,?_,?_,?_,?_,?_,?_⟩
   ·simp (dsimp:=false)(disch:=omega) only [go_sem,Φa,hP,h1_0,h1_1,h1_2,h1_3]
    first | done | exact congrArg _ (decide_eq_decide.2 (by omega)) | exact congrArg _ (decide_eq_true (by omega)).symm | exact congrArg _ (decide_eq_false (by omega)).symm
   ·simp (dsimp:=false)(disch:=omega) only [go_sem,Φa,hP,h1_0,h1_1,h1_2,h1_3]
   ·simp (dsimp:=false)(disch:=omega) only [go_sem,Φa,hP,h1_0,h1_1,h1_2,h1_3]
   ·simp (dsimp:=false)(disch:=omega) only [go_sem,Φa,hP,h1_0,h1_1,h1_2,h1_3]
   ·simp (dsimp:=false)(disch:=omega) only [go_sem,Φa,hP,h1_0,h1_1,h1_2,h1_3]
   ·rfl
   trivial
 intro ss T2 L2 hI
 simp only [h1_0,h1_1,h1_2,h1_3] at hI 
 obtain ⟨h2_24,h2_0,h2_1,h2_2,h2_3,hL2,hinv⟩ := hI
 replace hL2 := hL2.symm
 subst hL2
 clear h1_0 h1_1 h1_2 h1_3 T1
 refine RX.done ?_
 simp (dsimp:=false)(disch:=omega) only [go_sem,Φa,hP,h2_24,h2_0,h2_1,h2_2,h2_3,hops]
 refine hK3 _ _ ?_
 try clear hK3 K3
 refine SX.cond_k fun X5 Y5 hX5 hY5=>?_
 simp (dsimp:=false)(disch:=omega) only [go_sem,Φa,hP,h2_24,h2_0,h2_1,h2_2,h2_3,condVC]
 refine hY5 ?_
 clear hX5 hY5 X5 Y5
 refine SX.skip ?_
 try simp only [andThen_normal,andThen_ret,andThen_exit,inBlk_normal,inBlk_ret,inBlk_exit,Nat.reduceEqDiff,if_true,if_false,↓reduceIte]
 refine hK2 _ _ ?_
 try clear hK2 K2
 refine SX.seq_k fun K6 hK6=>?_
 refine SX.region_d [some 11] rfl (fun ops hops=>?_)
 unfold Dsts at hops
 simp (dsimp:=false)(disch:=omega) only [go_sem,Φa,hP,h2_24,h2_0,h2_1,h2_2,h2_3,hops]
 refine hK6 _ _ ?_
 try clear hK6 K6
 refine SX.seq_k fun K7 hK7=>?_
 refine SX.region_d [some 25,some 26,some 27,some 11] rfl (fun ops hops=>?_)
 unfold Dsts at hops
 simp (dsimp:=false)(disch:=omega) only [go_sem,Φa,hP,h2_24,h2_0,h2_1,h2_2,h2_3,hops]
 refine YAppend.fresh (hP ▸ T.elS_25) (hP ▸ T.zr_5) rfl ha0 (by omega) (by omega) (by decide) (fun r cap junk hcap hcm hjl=>?_)
 try refine stI ?_
 try simp (dsimp:=false)(disch:=omega) only [go_sem,Φa,hP,h2_24,h2_0,h2_1,h2_2,h2_3,hops]
 rw [hpl]
 try refine stI ?_
 try simp (dsimp:=false)(disch:=omega) only [go_sem,Φa,hP,h2_24,h2_0,h2_1,h2_2,h2_3,hops]
 refine hK7 _ _ ?_
 try clear hK7 K7
 refine SX.seq_k fun K8 hK8=>?_
 refine SX.region_d [some 12] rfl (fun ops hops=>?_)
 unfold Dsts at hops
 simp (dsimp:=false)(disch:=omega) only [go_sem,Φa,hP,h2_24,h2_0,h2_1,h2_2,h2_3,hops]
 refine hK8 _ _ ?_
 try clear hK8 K8
 refine SX.seq_k fun K9 hK9=>?_
 refine SX.seq_k fun K10 hK10=>?_
 refine SX.region_d [some 13] rfl (fun ops hops=>?_)
 unfold Dsts at hops
 simp (dsimp:=false)(disch:=omega) only [go_sem,Φa,hP,h2_24,h2_0,h2_1,h2_2,h2_3,hops]
 refine hK10 _ _ ?_
 try clear hK10 K10
 refine SX.block ?_
 refine SX.live [1,2,3,11,12,13] (fun T3 hT3=>?_)
 simp only [forall_mem_cons',forall_mem_nil',go_sem,Φa,hP,h2_24,h2_0,h2_1,h2_2,h2_3] at hT3
 obtain ⟨h3_1,h3_2,h3_3,h3_11,h3_12,h3_13⟩ := hT3
 clear h2_24 h2_0 h2_1 h2_2 h2_3 T2
 refine SX.loop_k (fun (ss : (Nat)) T L'=>(fun (k : Nat)=>T 12 = .bool (eachK rows (x % 64) (y % 32) (false,page) k).1 ∧ T 13 = .int .i64 (k : Int) ∧ T 1 = T3 1 ∧ T 2 = T3 2 ∧ T 3 = T3 3 ∧ T 11 = T3 11 ∧ L' = some (r,.cells (ints .u8 (eachK rows (x % 64) (y % 32) (false,page) k).2 ++ junk).toArray 5 (0,0)) :: L ∧ (k ≤ rows.length)) (ss)) (fun (ss : (Nat))=>(fun (k : Nat)=>rows.length - k) (ss)) 0 ?_ ?_
 ·try dsimp only
  refine ⟨?_,?_,?_,?_,?_,?_,?_,?_⟩
  ·simp only [*]; rfl
  ·first | exact h3_13 | (rw [h3_13]; rfl) | (rw [h3_13]; simp; done)
  ·rfl
  ·rfl
  ·rfl
  ·rfl
  ·rfl
  exact Nat.zero_le _
 intro k T4 L4 hI K11 hK11
 try dsimp only at hI hK11
 simp only [h3_1,h3_2,h3_3,h3_11] at hI hK11
 obtain ⟨h4_12,h4_13,h4_1,h4_2,h4_3,h4_11,hL4,hk⟩ := hI
 replace hL4 := hL4.symm
 subst hL4
 clear h3_1 h3_2 h3_3 h3_11 h3_12 h3_13 T3
 refine SX.seq_k fun K12 hK12=>?_
 refine SX.seq_k fun K13 hK13=>?_
 refine SX.region_d [some 28,some 29,some 30,some 31] rfl (fun ops hops=>?_)
 unfold Dsts at hops
 simp (dsimp:=false)(disch:=omega) only [go_sem,Φa,hP,h4_12,h4_13,h4_1,h4_2,h4_3,h4_11,hops]
 repeat' ((first | refine And.intro (by omega) ?_ | fail); try refine stI ?_; try simp (dsimp:=false)(disch:=omega) only [go_sem,Φa,hP,h4_12,h4_13,h4_1,h4_2,h4_3,h4_11,hops])
 refine hK13 _ _ ?_
 try clear hK13 K13
 refine SX.cond_k fun X14 Y14 hX14 hY14=>?_
 simp (dsimp:=false)(disch:=omega) only [go_sem,Φa,hP,h4_12,h4_13,h4_1,h4_2,h4_3,h4_11,condVC]
 refine ⟨fun hc31=>hX14 ?_,fun hc31=>hY14 ?_⟩
 ·clear hX14 hY14 X14 Y14
  refine SX.skip ?_
  try simp only [andThen_normal,andThen_ret,andThen_exit,inBlk_normal,inBlk_ret,inBlk_exit,Nat.reduceEqDiff,if_true,if_false,↓reduceIte]
  refine hK12 _ _ ?_
  try clear hK12 K12
  refine SX.seq_k fun K15 hK15=>?_
  refine SX.block ?_
  refine SX.seq_k fun K16 hK16=>?_
  have hx0 := getD_some (l := rows) (i := k) (by omega)
  obtain ⟨a,ha,hca⟩ := hB k _ hx0
  simp only [Nat.mul_one] at hca
  subst ha
  have hbr := hbyte.at k
  refine SX.region_d [some 14] rfl (fun ops hops=>?_)
  unfold Dsts at hops
  simp (dsimp:=false)(disch:=omega) only [go_sem,Φa,hP,h4_12,h4_13,h4_1,h4_2,h4_3,h4_11,hops]
  refine hK16 _ _ ?_
  try clear hK16 K16
  refine SX.block ?_
  refine SX.live [1,2,3,11,12,13,14] (fun T5 hT5=>?_)
  simp only [forall_mem_cons',forall_mem_nil',go_sem,Φa,hP,h4_12,h4_13,h4_1,h4_2,h4_3,h4_11] at hT5
  obtain ⟨h5_1,h5_2,h5_3,h5_11,h5_12,h5_13,h5_14⟩ := hT5
  clear h4_12 h4_13 h4_1 h4_2 h4_3 h4_11 T4
  refine SX.loop_k (fun (ss : (Nat)) T L'=>(fun (d : Nat)=>T 12 = .bool (eachI (rows.getD k 0) (x % 64) (y % 32 + k) (eachK rows (x % 64) (y % 32) (false,page) k) d).1 ∧ T 14 = .int .i64 (d : Int) ∧ T 1 = T5 1 ∧ T 2 = T5 2 ∧ T 3 = T5 3 ∧ T 11 = T5 11 ∧ T 13 = T5 13 ∧ L' = some (r,.cells (ints .u8 (eachI (rows.getD k 0) (x % 64) (y % 32 + k) (eachK rows (x % 64) (y % 32) (false,page) k) d).2 ++ junk).toArray 5 (0,0)) :: L ∧ (d ≤ 8)) (ss)) (fun (ss : (Nat))=>(fun (d : Nat)=>8 - d) (ss)) 0 ?_ ?_
  ·try dsimp only
   refine ⟨?_,?_,?_,?_,?_,?_,?_,?_,?_⟩
   ·simp only [*]; rfl
   ·first | exact h5_14 | (rw [h5_14]; rfl) | (rw [h5_14]; simp; done)
   ·rfl
   ·rfl
   ·rfl
   ·rfl
   ·rfl
   ·rfl
   exact Nat.zero_le _
  intro d T6 L6 hI K17 hK17
  try dsimp only at hI hK17
  simp only [h5_1,h5_2,h5_3,h5_11,h5_13] at hI hK17
  obtain ⟨h6_12,h6_14,h6_1,h6_2,h6_3,h6_11,h6_13,hL6,hd⟩ := hI
  replace hL6 := hL6.symm
  subst hL6
  clear h5_1 h5_2 h5_3 h5_11 h5_12 h5_13 h5_14 T5
  refine SX.seq_k fun K18 hK18=>?_
  refine SX.seq_k fun K19 hK19=>?_
  refine SX.region_d [some 34,some 35] rfl (fun ops hops=>?_)
  unfold Dsts at hops
  simp (dsimp:=false)(disch:=omega) only [go_sem,Φa,hP,h6_12,h6_14,h6_1,h6_2,h6_3,h6_11,h6_13,hops]
  repeat' ((first | refine And.intro (by omega) ?_ | fail); try refine stI ?_; try simp (dsimp:=false)(disch:=omega) only [go_sem,Φa,hP,h6_12,h6_14,h6_1,h6_2,h6_3,h6_11,h6_13,hops])
  refine hK19 _ _ ?_
  try clear hK19 K19
  refine SX.cond_k fun X20 Y20 hX20 hY20=>?_
  simp (dsimp:=false)(disch:=omega) only [go_sem,Φa,hP,h6_12,h6_14,h6_1,h6_2,h6_3,h6_11,h6_13,condVC]
  refine ⟨fun hc35=>hX20 ?_,fun hc35=>hY20 ?_⟩
  ·clear hX20 hY20 X20 Y20
   refine SX.skip ?_
   try simp only [andThen_normal,andThen_ret,andThen_exit,inBlk_normal,inBlk_ret,inBlk_exit,Nat.reduceEqDiff,if_true,if_false,↓reduceIte]
   refine hK18 _ _ ?_
   try clear hK18 K18
   refine SX.seq_k fun K21 hK21=>?_
   refine SX.block ?_
   refine SX.seq_k fun K22 hK22=>?_
   have q2 : (x : Int).tmod 64 = ((x % 64 : Nat) : Int) := rfl
   refine SX.region_d [some 38,some 39,some 40,some 41,some 42,some 15] rfl (fun ops hops=>?_)
   unfold Dsts at hops
   simp (dsimp:=false)(disch:=omega) only [go_sem,Φa,hP,h6_12,h6_14,h6_1,h6_2,h6_3,h6_11,h6_13,hops,q2]
   repeat' ((first | refine And.intro (by omega) ?_ | fail); try refine stI ?_; try simp (dsimp:=false)(disch:=omega) only [go_sem,Φa,hP,h6_12,h6_14,h6_1,h6_2,h6_3,h6_11,h6_13,hops,q2])
   refine hK22 _ _ ?_
   try clear hK22 K22
   refine SX.seq_k fun K23 hK23=>?_
   have q5 : (y : Int).tmod 32 = ((y % 32 : Nat) : Int) := rfl
   refine SX.region_d [some 43,some 44,some 45,some 46,some 47,some 16] rfl (fun ops hops=>?_)
   unfold Dsts at hops
   simp (dsimp:=false)(disch:=omega) only [go_sem,Φa,hP,h6_12,h6_14,h6_1,h6_2,h6_3,h6_11,h6_13,hops,q5]
   repeat' ((first | refine And.intro (by omega) ?_ | fail); try refine stI ?_; try simp (dsimp:=false)(disch:=omega) only [go_sem,Φa,hP,h6_12,h6_14,h6_1,h6_2,h6_3,h6_11,h6_13,hops,q5])
   refine hK23 _ _ ?_
   try clear hK23 K23
   refine SX.live [1,2,3,11,12,13,14,15,16] (fun T7 hT7=>?_)
   simp only [forall_mem_cons',forall_mem_nil',go_sem,Φa,hP,h6_12,h6_14,h6_1,h6_2,h6_3,h6_11,h6_13] at hT7
   obtain ⟨h7_1,h7_2,h7_3,h7_11,h7_12,h7_13,h7_14,h7_15,h7_16⟩ := hT7
   clear h6_12 h6_14 h6_1 h6_2 h6_3 h6_11 h6_13 T6
   refine SX.seq_k fun K24 hK24=>?_
   refine SX.seq_k fun K25 hK25=>?_
   refine SX.quiet_xd (hP ▸ T.mixed) (by kernel_rfl) [some 48,some 49,some 50,some 51,some 52,some 53,some 54,some 55,some 56,some 57,some 58,some 59,some 60,some 61,some 62,some 63] rfl (fun ops hops=>?_)
   unfold Dsts at hops
   refine QX.live [1,2,3,11,12,13,14,15,16] (fun T8 hT8=>?_)
   simp only [forall_mem_cons',forall_mem_nil',go_sem,Φa,hP,h7_1,h7_2,h7_3,h7_11,h7_12,h7_13,h7_14,h7_15,h7_16] at hT8
   obtain ⟨h8_1,h8_2,h8_3,h8_11,h8_12,h8_13,h8_14,h8_15,h8_16⟩ := hT8
   clear h7_1 h7_2 h7_3 h7_11 h7_12 h7_13 h7_14 h7_15 h7_16 T7
   refine QX.join 12 (fun (ss : Unit) T L'=>T 59 = .bool (decide (tst (rows.getD k 0) d = 0 ∨ 64 ≤ x % 64 + d)) ∧ T 1 = T8 1 ∧ T 2 = T8 2 ∧ T 3 = T8 3 ∧ T 11 = T8 11 ∧ T 12 = T8 12 ∧ T 13 = T8 13 ∧ T 14 = T8 14 ∧ T 15 = T8 15 ∧ T 16 = T8 16 ∧ L' = some (r,.cells (ints .u8 (eachI (rows.getD k 0) (x % 64) (y % 32 + k) (eachK rows (x % 64) (y % 32) (false,page) k) d).2 ++ junk).toArray 5 (0,0)) :: L ∧ (True)) (fun K26 hK26=>?_) ?_
   ·simp only [h8_1,h8_2,h8_3,h8_11,h8_12,h8_13,h8_14,h8_15,h8_16] at hK26
    simp (dsimp:=false)(disch:=omega) only [go_sem,Φa,hP,h8_1,h8_2,h8_3,h8_11,h8_12,h8_13,h8_14,h8_15,h8_16,hops,tst_fold,Int.toNat_natCast]
    repeat' (first | refine iteB (fun hg=>?_) (fun hg=>?_) | refine iteI (fun hg=>?_) (fun hg=>?_) | ((first | refine ⟨_,Cell.cons _ hca,?_⟩ | refine And.intro (by omega) ?_ | refine ⟨_,Cell.at 0 rfl rfl,?_⟩ | fail); try refine stI ?_; try simp (dsimp:=false)(disch:=omega) only [go_sem,Φa,hP,h8_1,h8_2,h8_3,h8_11,h8_12,h8_13,h8_14,h8_15,h8_16,hops,tst_fold,Int.toNat_natCast]) | fail)
    all_goals
     refine hK26 () _ (some (r,.cells (ints .u8 (eachI (rows.getD k 0) (x % 64) (y % 32 + k) (eachK rows (x % 64) (y % 32) (false,page) k) d).2 ++ junk).toArray 5 (0,0)) :: L) _ (by rfl) ?_
     try dsimp only
     refine ⟨?_,?_,?_,?_,?_,?_,?_,?_,?_,?_,?_,?_⟩
     ·simp (dsimp:=false)(disch:=omega) only [go_sem,Φa,hP,h8_1,h8_2,h8_3,h8_11,h8_12,h8_13,h8_14,h8_15,h8_16]
      first | done | (refine congrArg Value.bool ?_; rw [Bool.eq_iff_iff]; simp only [decide_eq_true_eq,false_or,true_or,true_iff,iff_true,Bool.true_eq_false,eq_self]; first | done | omega) | (refine congrArg Value.bool ?_; rw [Bool.eq_iff_iff]; simp_all; first | done | omega)
     ·simp (dsimp:=false)(disch:=omega) only [go_sem,Φa,hP,h8_1,h8_2,h8_3,h8_11,h8_12,h8_13,h8_14,h8_15,h8_16]
     ·simp (dsimp:=false)(disch:=omega) only [go_sem,Φa,hP,h8_1,h8_2,h8_3,h8_11,h8_12,h8_13,h8_14,h8_15,h8_16]
     ·simp (dsimp:=false)(disch:=omega) only [go_sem,Φa,hP,h8_1,h8_2,h8_3,h8_11,h8_12,h8_13,h8_14,h8_15,h8_16]
     ·simp (dsimp:=false)(disch:=omega) only [go_sem,Φa,hP,h8_1,h8_2,h8_3,h8_11,h8_12,h8_13,h8_14,h8_15,h8_16]
     ·simp (dsimp:=false)(disch:=omega) only [go_sem,Φa,hP,h8_1,h8_2,h8_3,h8_11,h8_12,h8_13,h8_14,h8_15,h8_16]
     ·simp (dsimp:=false)(disch:=omega) only [go_sem,Φa,hP,h8_1,h8_2,h8_3,h8_11,h8_12,h8_13,h8_14,h8_15,h8_16]
     ·simp (dsimp:=false)(disch:=omega) only [go_sem,Φa,hP,h8_1,h8_2,h8_3,h8_11,h8_12,h8_13,h8_14,h8_15,h8_16]
     ·simp (dsimp:=false)(disch:=omega) only [go_sem,Φa,hP,h8_1,h8_2,h8_3,h8_11,h8_12,h8_13,h8_14,h8_15,h8_16]
     ·simp (dsimp:=false)(disch:=omega) only [go_sem,Φa,hP,h8_1,h8_2,h8_3,h8_11,h8_12,h8_13,h8_14,h8_15,h8_16]
     ·rfl
     trivial
   intro ss T9 L9 hE9 hI
   simp only [h8_1,h8_2,h8_3,h8_11,h8_12,h8_13,h8_14,h8_15,h8_16] at hI 
   obtain ⟨h9_59,h9_1,h9_2,h9_3,h9_11,h9_12,h9_13,h9_14,h9_15,h9_16,hL9,hinv⟩ := hI
   replace hL9 := hL9.symm
   subst hL9
   clear h8_1 h8_2 h8_3 h8_11 h8_12 h8_13 h8_14 h8_15 h8_16 T8
   clear hE9
   refine QX.live [1,2,3,11,12,13,14,15,16,59] (fun T10 hT10=>?_)
   simp only [forall_mem_cons',forall_mem_nil',go_sem,Φa,hP,h9_59,h9_1,h9_2,h9_3,h9_11,h9_12,h9_13,h9_14,h9_15,h9_16] at hT10
   obtain ⟨h10_1,h10_2,h10_3,h10_11,h10_12,h10_13,h10_14,h10_15,h10_16,h10_59⟩ := hT10
   clear h9_59 h9_1 h9_2 h9_3 h9_11 h9_12 h9_13 h9_14 h9_15 h9_16 T9
   refine QX.join 4 (fun (ss : Unit) T L'=>T 63 = .bool (decide ((tst (rows.getD k 0) d = 0 ∨ 64 ≤ x % 64 + d) ∨ 32 ≤ y % 32 + k)) ∧ T 1 = T10 1 ∧ T 2 = T10 2 ∧ T 3 = T10 3 ∧ T 11 = T10 11 ∧ T 12 = T10 12 ∧ T 13 = T10 13 ∧ T 14 = T10 14 ∧ T 15 = T10 15 ∧ T 16 = T10 16 ∧ L' = some (r,.cells (ints .u8 (eachI (rows.getD k 0) (x % 64) (y % 32 + k) (eachK rows (x % 64) (y % 32) (false,page) k) d).2 ++ junk).toArray 5 (0,0)) :: L ∧ (True)) (fun K27 hK27=>?_) ?_
   ·simp only [h10_1,h10_2,h10_3,h10_11,h10_12,h10_13,h10_14,h10_15,h10_16] at hK27
    simp (dsimp:=false)(disch:=omega) only [go_sem,Φa,hP,h10_1,h10_2,h10_3,h10_11,h10_12,h10_13,h10_14,h10_15,h10_16,h10_59,hops,tst_fold,Int.toNat_natCast]
    repeat' (first | refine iteB (fun hg=>?_) (fun hg=>?_) | refine iteI (fun hg=>?_) (fun hg=>?_) | ((first | refine ⟨_,Cell.cons _ hca,?_⟩ | refine And.intro (by omega) ?_ | refine ⟨_,Cell.at 0 rfl rfl,?_⟩ | fail); try refine stI ?_; try simp (dsimp:=false)(disch:=omega) only [go_sem,Φa,hP,h10_1,h10_2,h10_3,h10_11,h10_12,h10_13,h10_14,h10_15,h10_16,h10_59,hops,tst_fold,Int.toNat_natCast]) | fail)
    all_goals
     refine hK27 () _ (some (r,.cells (ints .u8 (eachI (rows.getD k 0) (x % 64) (y % 32 + k) (eachK rows (x % 64) (y % 32) (false,page) k) d).2 ++ junk).toArray 5 (0,0)) :: L) _ (by rfl) ?_
     try dsimp only
     refine ⟨?_,?_,?_,?_,?_,?_,?_,?_,?_,?_,?_,?_⟩
     ·simp (dsimp:=false)(disch:=omega) only [go_sem,Φa,hP,h10_1,h10_2,h10_3,h10_11,h10_12,h10_13,h10_14,h10_15,h10_16,h10_59]
      first | done | (refine congrArg Value.bool ?_; rw [Bool.eq_iff_iff]; simp only [decide_eq_true_eq,false_or,true_or,true_iff,iff_true,Bool.true_eq_false,eq_self]; first | done | omega) | (refine congrArg Value.bool ?_; rw [Bool.eq_iff_iff]; simp_all; first | done | omega)
     ·simp (dsimp:=false)(disch:=omega) only [go_sem,Φa,hP,h10_1,h10_2,h10_3,h10_11,h10_12,h10_13,h10_14,h10_15,h10_16,h10_59]
     ·simp (dsimp:=false)(disch:=omega) only [go_sem,Φa,hP,h10_1,h10_2,h10_3,h10_11,h10_12,h10_13,h10_14,h10_15,h10_16,h10_59]
     ·simp (dsimp:=false)(disch:=omega) only [go_sem,Φa,hP,h10_1,h10_2,h10_3,h10_11,h10_12,h10_13,h10_14,h10_15,h10_16,h10_59]
     ·simp (dsimp:=false)(disch:=omega) only [go_sem,Φa,hP,h10_1,h10_2,h10_3,h10_11,h10_12,h10_13,h10_14,h10_15,h10_16,h10_59]
     ·simp (dsimp:=false)(disch:=omega) only [go_sem,Φa,hP,h10_1,h10_2,h10_3,h10_11,h10_12,h10_13,h10_14,h10_15,h10_16,h10_59]
     ·simp (dsimp:=false)(disch:=omega) only [go_sem,Φa,hP,h10_1,h10_2,h10_3,h10_11,h10_12,h10_13,h10_14,h10_15,h10_16,h10_59]
     ·simp (dsimp:=false)(disch:=omega) only [go_sem,Φa,hP,h10_1,h10_2,h10_3,h10_11,h10_12,h10_13,h10_14,h10_15,h10_16,h10_59]
     ·simp (dsimp:=false)(disch:=omega) only [go_sem,Φa,hP,h10_1,h10_2,h10_3,h10_11,h10_12,h10_13,h10_14,h10_15,h10_16,h10_59]
     ·simp (dsimp:=false)(disch:=omega) only [go_sem,Φa,hP,h10_1,h10_2,h10_3,h10_11,h10_12,h10_13,h10_14,h10_15,h10_16,h10_59]
     ·rfl
     trivial
   intro ss T11 L11 hE11 hI
   simp only [h10_1,h10_2,h10_3,h10_11,h10_12,h10_13,h10_14,h10_15,h10_16] at hI 
   obtain ⟨h11_63,h11_1,h11_2,h11_3,h11_11,h11_12,h11_13,h11_14,h11_15,h11_16,hL11,hinv⟩ := hI
   replace hL11 := hL11.symm
   subst hL11
   clear h10_1 h10_2 h10_3 h10_11 h10_12 h10_13 h10_14 h10_15 h10_16 h10_59 T10
   clear hE11
   refine QX.done ?_
   simp (dsimp:=false)(disch:=omega) only [go_sem,Φa,hP,h11_63,h11_1,h11_2,h11_3,h11_11,h11_12,h11_13,h11_14,h11_15,h11_16,hops]
   refine hK25 _ _ ?_
   try clear hK25 K25
   refine SX.cond_k fun X28 Y28 hX28 hY28=>?_
   simp (dsimp:=false)(disch:=omega) only [go_sem,Φa,hP,h11_63,h11_1,h11_2,h11_3,h11_11,h11_12,h11_13,h11_14,h11_15,h11_16,condVC]
   refine ⟨fun hc63=>hX28 ?_,fun hc63=>hY28 ?_⟩
   ·clear hX28 hY28 X28 Y28
    have hskip := eachI_skip (x := x % 64) (y := y % 32 + k) (st := eachK rows (x % 64) (y % 32) (false,page) k) hbr (d := d) (by omega) (by omega)
    refine SX.exit ?_
    try simp only [andThen_normal,andThen_ret,andThen_exit,inBlk_normal,inBlk_ret,inBlk_exit,Nat.reduceEqDiff,if_true,if_false,↓reduceIte]
    refine hK21 _ _ ?_
    try clear hK21 K21
    refine SX.region_d [some 36,some 37,some 14] rfl (fun ops hops=>?_)
    unfold Dsts at hops
    simp (dsimp:=false)(disch:=omega) only [go_sem,Φa,hP,h11_63,h11_1,h11_2,h11_3,h11_11,h11_12,h11_13,h11_14,h11_15,h11_16,hops]
    repeat' ((first | refine And.intro (by omega) ?_ | fail); try refine stI ?_; try simp (dsimp:=false)(disch:=omega) only [go_sem,Φa,hP,h11_63,h11_1,h11_2,h11_3,h11_11,h11_12,h11_13,h11_14,h11_15,h11_16,hops])
    refine hK17 (d + 1) _ (_) _ (by first | exact Less.refl _ | exact Less.drop _ _ | exact Less.drops (Less.drop _ _) | exact Less.drops (Less.drops (Less.drop _ _)) | exact Less.drops (Less.drops (Less.drops (Less.drop _ _))) | exact Less.drops (Less.drops (Less.drops (Less.drops (Less.drop _ _))))) ?_ ?_
    ·try dsimp only
     refine ⟨?_,?_,?_,?_,?_,?_,?_,?_,?_⟩
     ·simp (dsimp:=false)(disch:=omega) only [go_sem,Φa,hP,h11_63,h11_1,h11_2,h11_3,h11_11,h11_12,h11_13,h11_14,h11_15,h11_16]
      simp only [hskip]
     ·simp (dsimp:=false)(disch:=omega) only [go_sem,Φa,hP,h11_63,h11_1,h11_2,h11_3,h11_11,h11_12,h11_13,h11_14,h11_15,h11_16]
      first | done | rfl | skip
     ·simp (dsimp:=false)(disch:=omega) only [go_sem,Φa,hP,h11_63,h11_1,h11_2,h11_3,h11_11,h11_12,h11_13,h11_14,h11_15,h11_16]
     ·simp (dsimp:=false)(disch:=omega) only [go_sem,Φa,hP,h11_63,h11_1,h11_2,h11_3,h11_11,h11_12,h11_13,h11_14,h11_15,h11_16]
     ·simp (dsimp:=false)(disch:=omega) only [go_sem,Φa,hP,h11_63,h11_1,h11_2,h11_3,h11_11,h11_12,h11_13,h11_14,h11_15,h11_16]
     ·simp (dsimp:=false)(disch:=omega) only [go_sem,Φa,hP,h11_63,h11_1,h11_2,h11_3,h11_11,h11_12,h11_13,h11_14,h11_15,h11_16]
     ·simp (dsimp:=false)(disch:=omega) only [go_sem,Φa,hP,h11_63,h11_1,h11_2,h11_3,h11_11,h11_12,h11_13,h11_14,h11_15,h11_16]
     ·simp only [hskip]
     omega
    (try dsimp only); omega
   clear hX28 hY28 X28 Y28
   have hput := eachI_put (x := x % 64) (y := y % 32 + k) (st := eachK rows (x % 64) (y % 32) (false,page) k) hbr (d := d) (by omega) (by omega) (by omega) (by omega)
   have hln : (eachI (rows.getD k 0) (x % 64) (y % 32 + k) (eachK rows (x % 64) (y % 32) (false,page) k) d).2.length = 256 := by rw [eachI_length,eachK_length]; exact hpl
   have hc1 : (((x % 64 : Nat) : Int) + (d : Int)) = ((x % 64 + d : Nat) : Int) := by omega
   have hc2 : (((y % 32 : Nat) : Int) + (k : Int)) = ((y % 32 + k : Nat) : Int) := by omega
   refine SX.skip ?_
   try simp only [andThen_normal,andThen_ret,andThen_exit,inBlk_normal,inBlk_ret,inBlk_exit,Nat.reduceEqDiff,if_true,if_false,↓reduceIte]
   refine hK24 _ _ ?_
   try clear hK24 K24
   refine SX.live [1,2,3,11,12,13,14,15,16] (fun T12 hT12=>?_)
   simp only [forall_mem_cons',forall_mem_nil',go_sem,Φa,hP,h11_63,h11_1,h11_2,h11_3,h11_11,h11_12,h11_13,h11_14,h11_15,h11_16] at hT12
   obtain ⟨h12_1,h12_2,h12_3,h12_11,h12_12,h12_13,h12_14,h12_15,h12_16⟩ := hT12
   clear h11_63 h11_1 h11_2 h11_3 h11_11 h11_12 h11_13 h11_14 h11_15 h11_16 T11
   refine SX.join (fun (ss : Unit) T L'=>T 12 = .bool ((eachI (rows.getD k 0) (x % 64) (y % 32 + k) (eachK rows (x % 64) (y % 32) (false,page) k) d).1 || pix (eachI (rows.getD k 0) (x % 64) (y % 32 + k) (eachK rows (x % 64) (y % 32) (false,page) k) d).2 (x % 64 + d) (y % 32 + k)) ∧ T 1 = T12 1 ∧ T 2 = T12 2 ∧ T 3 = T12 3 ∧ T 11 = T12 11 ∧ T 13 = T12 13 ∧ T 14 = T12 14 ∧ T 15 = T12 15 ∧ T 16 = T12 16 ∧ L' = some (r,.cells (ints .u8 (eachI (rows.getD k 0) (x % 64) (y % 32 + k) (eachK rows (x % 64) (y % 32) (false,page) k) d).2 ++ junk).toArray 5 (0,0)) :: L ∧ (True)) (fun K29 hK29=>?_) ?_
   ·simp only [h12_1,h12_2,h12_3,h12_11,h12_13,h12_14,h12_15,h12_16] at hK29
    refine SX.seq_k fun K30 hK30=>?_
    refine SX.region_d [some 64,some 65,some 66,some 67] rfl (fun ops hops=>?_)
    unfold Dsts at hops
    simp (dsimp:=false)(disch:=omega) only [go_sem,Φa,hP,h12_1,h12_2,h12_3,h12_11,h12_12,h12_13,h12_14,h12_15,h12_16,hops,hc1,hc2]
    refine SCall.mono (On_spec hP (by omega) (by omega) (SlI.row 0 rfl hln.symm (by omega)) hln) ?_
    rintro v_ L_ ⟨hv_,hL_⟩
    rw [hv_,hL_]
    clear hv_ hL_ v_ L_
    try refine stI ?_
    try simp (dsimp:=false)(disch:=omega) only [go_sem,Φa,hP,h12_1,h12_2,h12_3,h12_11,h12_12,h12_13,h12_14,h12_15,h12_16,hops,hc1,hc2]
    refine hK30 _ _ ?_
    try clear hK30 K30
    refine SX.cond_k fun X31 Y31 hX31 hY31=>?_
    simp (dsimp:=false)(disch:=omega) only [go_sem,Φa,hP,h12_1,h12_2,h12_3,h12_11,h12_12,h12_13,h12_14,h12_15,h12_16,condVC]
    refine ⟨fun hc67=>hX31 ?_,fun hc67=>hY31 ?_⟩
    ·clear hX31 hY31 X31 Y31
     refine SX.region_d [some 12] rfl (fun ops hops=>?_)
     unfold Dsts at hops
     simp (dsimp:=false)(disch:=omega) only [go_sem,Φa,hP,h12_1,h12_2,h12_3,h12_11,h12_12,h12_13,h12_14,h12_15,h12_16,hops]
     refine hK29 () _ (some (r,.cells (ints .u8 (eachI (rows.getD k 0) (x % 64) (y % 32 + k) (eachK rows (x % 64) (y % 32) (false,page) k) d).2 ++ junk).toArray 5 (0,0)) :: L) _ (by first | exact Less.refl _ | exact Less.drop _ _ | exact Less.drops (Less.drop _ _) | exact Less.drops (Less.drops (Less.drop _ _)) | exact Less.drops (Less.drops (Less.drops (Less.drop _ _))) | exact Less.drops (Less.drops (Less.drops (Less.drops (Less.drop _ _))))) ?_
     try dsimp only
     refine ⟨?_,?_,?_,?_,?_,?_,?_,?_,?_,?_,?_⟩
     ·simp (dsimp:=false)(disch:=omega) only [go_sem,Φa,hP,h12_1,h12_2,h12_3,h12_11,h12_12,h12_13,h12_14,h12_15,h12_16]
      rw [hc67,Bool.or_true]
     ·simp (dsimp:=false)(disch:=omega) only [go_sem,Φa,hP,h12_1,h12_2,h12_3,h12_11,h12_12,h12_13,h12_14,h12_15,h12_16]
     ·simp (dsimp:=false)(disch:=omega) only [go_sem,Φa,hP,h12_1,h12_2,h12_3,h12_11,h12_12,h12_13,h12_14,h12_15,h12_16]
     ·simp (dsimp:=false)(disch:=omega) only [go_sem,Φa,hP,h12_1,h12_2,h12_3,h12_11,h12_12,h12_13,h12_14,h12_15,h12_16]
     ·simp (dsimp:=false)(disch:=omega) only [go_sem,Φa,hP,h12_1,h12_2,h12_3,h12_11,h12_12,h12_13,h12_14,h12_15,h12_16]
     ·simp (dsimp:=false)(disch:=omega) only [go_sem,Φa,hP,h12_1,h12_2,h12_3,h12_11,h12_12,h12_13,h12_14,h12_15,h12_16]
     ·simp (dsimp:=false)(disch:=omega) only [go_sem,Φa,hP,h12_1,h12_2,h12_3,h12_11,h12_12,h12_13,h12_14,h12_15,h12_16]
     ·simp (dsimp:=false)(disch:=omega) only [go_sem,Φa,hP,h12_1,h12_2,h12_3,h12_11,h12_12,h12_13,h12_14,h12_15,h12_16]
     ·simp (dsimp:=false)(disch:=omega) only [go_sem,Φa,hP,h12_1,h12_2,h12_3,h12_11,h12_12,h12_13,h12_14,h12_15,h12_16]
     ·rfl
     trivial
    clear hX31 hY31 X31 Y31
    refine SX.skip ?_
    try simp only [andThen_normal,andThen_ret,andThen_exit,inBlk_normal,inBlk_ret,inBlk_exit,Nat.reduceEqDiff,if_true,if_false,↓reduceIte]
    refine hK29 () _ (some (r,.cells (ints .u8 (eachI (rows.getD k 0) (x % 64) (y % 32 + k) (eachK rows (x % 64) (y % 32) (false,page) k) d).2 ++ junk).toArray 5 (0,0)) :: L) _ (by first | exact Less.refl _ | exact Less.drop _ _ | exact Less.drops (Less.drop _ _) | exact Less.drops (Less.drops (Less.drop _ _)) | exact Less.drops (Less.drops (Less.drops (Less.drop _ _))) | exact Less.drops (Less.drops (Less.drops (Less.drops (Less.drop _ _))))) ?_
    try dsimp only
    refine ⟨?_,?_,?_,?_,?_,?_,?_,?_,?_,?_,?_⟩
    ·simp (dsimp:=false)(disch:=omega) only [go_sem,Φa,hP,h12_1,h12_2,h12_3,h12_11,h12_12,h12_13,h12_14,h12_15,h12_16]
     rw [hc67,Bool.or_false]
    ·simp (dsimp:=false)(disch:=omega) only [go_sem,Φa,hP,h12_1,h12_2,h12_3,h12_11,h12_12,h12_13,h12_14,h12_15,h12_16]
    ·simp (dsimp:=false)(disch:=omega) only [go_sem,Φa,hP,h12_1,h12_2,h12_3,h12_11,h12_12,h12_13,h12_14,h12_15,h12_16]
    ·simp (dsimp:=false)(disch:=omega) only [go_sem,Φa,hP,h12_1,h12_2,h12_3,h12_11,h12_12,h12_13,h12_14,h12_15,h12_16]
    ·simp (dsimp:=false)(disch:=omega) only [go_sem,Φa,hP,h12_1,h12_2,h12_3,h12_11,h12_12,h12_13,h12_14,h12_15,h12_16]
    ·simp (dsimp:=false)(disch:=omega) only [go_sem,Φa,hP,h12_1,h12_2,h12_3,h12_11,h12_12,h12_13,h12_14,h12_15,h12_16]
    ·simp (dsimp:=false)(disch:=omega) only [go_sem,Φa,hP,h12_1,h12_2,h12_3,h12_11,h12_12,h12_13,h12_14,h12_15,h12_16]
    ·simp (dsimp:=false)(disch:=omega) only [go_sem,Φa,hP,h12_1,h12_2,h12_3,h12_11,h12_12,h12_13,h12_14,h12_15,h12_16]
    ·simp (dsimp:=false)(disch:=omega) only [go_sem,Φa,hP,h12_1,h12_2,h12_3,h12_11,h12_12,h12_13,h12_14,h12_15,h12_16]
    ·rfl
    trivial
   intro ss T13 L13 hI
   simp only [h12_1,h12_2,h12_3,h12_11,h12_13,h12_14,h12_15,h12_16] at hI 
   obtain ⟨h13_12,h13_1,h13_2,h13_3,h13_11,h13_13,h13_14,h13_15,h13_16,hL13,hinv⟩ := hI
   replace hL13 := hL13.symm
   subst hL13
   clear h12_1 h12_2 h12_3 h12_11 h12_12 h12_13 h12_14 h12_15 h12_16 T12
   refine SX.region_d [some 68,some 69,some 70,some 71] rfl (fun ops hops=>?_)
   unfold Dsts at hops
   simp (dsimp:=false)(disch:=omega) only [go_sem,Φa,hP,h13_12,h13_1,h13_2,h13_3,h13_11,h13_13,h13_14,h13_15,h13_16,hops,hc1,hc2]
   refine SCall.mono (turn_spec hP (by omega) (by omega) hln (by omega)) ?_
   rintro v_ L_ ⟨hv_,hL_⟩
   rw [hv_,hL_]
   clear hv_ hL_ v_ L_
   try refine stI ?_
   try simp (dsimp:=false)(disch:=omega) only [go_sem,Φa,hP,h13_12,h13_1,h13_2,h13_3,h13_11,h13_13,h13_14,h13_15,h13_16,hops,hc1,hc2]
   refine hK21 _ _ ?_
   try clear hK21 K21
   refine SX.region_d [some 36,some 37,some 14] rfl (fun ops hops=>?_)
   unfold Dsts at hops
   simp (dsimp:=false)(disch:=omega) only [go_sem,Φa,hP,h13_12,h13_1,h13_2,h13_3,h13_11,h13_13,h13_14,h13_15,h13_16,hops]
   repeat' ((first | refine And.intro (by omega) ?_ | fail); try refine stI ?_; try simp (dsimp:=false)(disch:=omega) only [go_sem,Φa,hP,h13_12,h13_1,h13_2,h13_3,h13_11,h13_13,h13_14,h13_15,h13_16,hops])
   refine hK17 (d + 1) _ (_) _ (by first | exact Less.refl _ | exact Less.drop _ _ | exact Less.drops (Less.drop _ _) | exact Less.drops (Less.drops (Less.drop _ _)) | exact Less.drops (Less.drops (Less.drops (Less.drop _ _))) | exact Less.drops (Less.drops (Less.drops (Less.drops (Less.drop _ _))))) ?_ ?_
   ·try dsimp only
    refine ⟨?_,?_,?_,?_,?_,?_,?_,?_,?_⟩
    ·simp (dsimp:=false)(disch:=omega) only [go_sem,Φa,hP,h13_12,h13_1,h13_2,h13_3,h13_11,h13_13,h13_14,h13_15,h13_16]
     simp only [hput]
    ·simp (dsimp:=false)(disch:=omega) only [go_sem,Φa,hP,h13_12,h13_1,h13_2,h13_3,h13_11,h13_13,h13_14,h13_15,h13_16]
     first | done | rfl | skip
    ·simp (dsimp:=false)(disch:=omega) only [go_sem,Φa,hP,h13_12,h13_1,h13_2,h13_3,h13_11,h13_13,h13_14,h13_15,h13_16]
    ·simp (dsimp:=false)(disch:=omega) only [go_sem,Φa,hP,h13_12,h13_1,h13_2,h13_3,h13_11,h13_13,h13_14,h13_15,h13_16]
    ·simp (dsimp:=false)(disch:=omega) only [go_sem,Φa,hP,h13_12,h13_1,h13_2,h13_3,h13_11,h13_13,h13_14,h13_15,h13_16]
    ·simp (dsimp:=false)(disch:=omega) only [go_sem,Φa,hP,h13_12,h13_1,h13_2,h13_3,h13_11,h13_13,h13_14,h13_15,h13_16]
    ·simp (dsimp:=false)(disch:=omega) only [go_sem,Φa,hP,h13_12,h13_1,h13_2,h13_3,h13_11,h13_13,h13_14,h13_15,h13_16]
    ·simp only [hput]
    omega
   (try dsimp only); omega
  clear hX20 hY20 X20 Y20
  refine SX.exit ?_
  try simp only [andThen_normal,andThen_ret,andThen_exit,inBlk_normal,inBlk_ret,inBlk_exit,Nat.reduceEqDiff,if_true,if_false,↓reduceIte]
  refine hK15 _ _ ?_
  try clear hK15 K15
  obtain rfl : d = 8 := by omega
  refine SX.region_d [some 32,some 33,some 13] rfl (fun ops hops=>?_)
  unfold Dsts at hops
  simp (dsimp:=false)(disch:=omega) only [go_sem,Φa,hP,h6_12,h6_14,h6_1,h6_2,h6_3,h6_11,h6_13,hops]
  repeat' ((first | refine And.intro (by omega) ?_ | fail); try refine stI ?_; try simp (dsimp:=false)(disch:=omega) only [go_sem,Φa,hP,h6_12,h6_14,h6_1,h6_2,h6_3,h6_11,h6_13,hops])
  refine hK11 (k + 1) _ (some (r,.cells (ints .u8 (eachK rows (x % 64) (y % 32) (false,page) ((k + 1))).2 ++ junk).toArray 5 (0,0)) :: L) _ (by first | exact Less.refl _ | exact Less.drop _ _ | exact Less.drops (Less.drop _ _) | exact Less.drops (Less.drops (Less.drop _ _)) | exact Less.drops (Less.drops (Less.drops (Less.drop _ _))) | exact Less.drops (Less.drops (Less.drops (Less.drops (Less.drop _ _))))) ?_ ?_
  ·try dsimp only
   refine ⟨?_,?_,?_,?_,?_,?_,?_,?_⟩
   ·simp (dsimp:=false)(disch:=omega) only [go_sem,Φa,hP,h6_12,h6_14,h6_1,h6_2,h6_3,h6_11,h6_13]
    first | done | rfl | skip
   ·simp (dsimp:=false)(disch:=omega) only [go_sem,Φa,hP,h6_12,h6_14,h6_1,h6_2,h6_3,h6_11,h6_13]
    first | done | rfl | skip
   ·simp (dsimp:=false)(disch:=omega) only [go_sem,Φa,hP,h6_12,h6_14,h6_1,h6_2,h6_3,h6_11,h6_13]
   ·simp (dsimp:=false)(disch:=omega) only [go_sem,Φa,hP,h6_12,h6_14,h6_1,h6_2,h6_3,h6_11,h6_13]
   ·simp (dsimp:=false)(disch:=omega) only [go_sem,Φa,hP,h6_12,h6_14,h6_1,h6_2,h6_3,h6_11,h6_13]
   ·simp (dsimp:=false)(disch:=omega) only [go_sem,Φa,hP,h6_12,h6_14,h6_1,h6_2,h6_3,h6_11,h6_13]
   ·rfl
   omega
  (try dsimp only); omega
 clear hX14 hY14 X14 Y14
 refine SX.exit ?_
 try simp only [andThen_normal,andThen_ret,andThen_exit,inBlk_normal,inBlk_ret,inBlk_exit,Nat.reduceEqDiff,if_true,if_false,↓reduceIte]
 refine hK9 _ _ ?_
 try clear hK9 K9
 refine SX.seq_k fun K32 hK32=>?_
 obtain rfl : k = rows.length := by omega
 refine SX.region_d [some 72,some 73,some 8,some 9,some 10] rfl (fun ops hops=>?_)
 unfold Dsts at hops
 simp (dsimp:=false)(disch:=omega) only [go_sem,Φa,hP,h4_12,h4_13,h4_1,h4_2,h4_3,h4_11,hops]
 refine hK32 _ _ ?_
 try clear hK32 K32
 refine SX.ret ?_
 simp only [andThen_normal,andThen_ret,andThen_exit,inBlk_normal,inBlk_ret,inBlk_exit,Nat.reduceEqDiff,if_true,if_false,↓reduceIte,retQ_ret]
 try simp only [res0,res1,res2,res3,stK_e,go_sem,Φa,hP,h4_12,h4_13,h4_1,h4_2,h4_3,h4_11]
 refine ⟨_,_,Less.refl _,rfl,.slice (some ⟨r,0,none⟩) 256 cap,some (r,.cells (ints .u8 (drawn page x y rows).2 ++ junk).toArray 5 (0,0)),rfl,rfl,?_⟩
 have hmx : (maxLen : Nat) = 9223372036854775807 := rfl
 have hl2 : (drawn page x y rows).2.length = 256 := by unfold drawn; rw [eachK_length]; exact hpl
 have := RowI.mk2 (e := 5) (r := r) (l := (drawn page x y rows).2) (k := .u8) (cap := cap) (junk := junk) (by omega) (by omega)
 rw [hl2] at this
 exact this

end Go.Proofs.YtgioegdjeodpiaaGreat
namespace Go.Proofs.YtgioegdjeodpiaaGreat
open Go.RowKit Go.SX

theorem drawn_mod (page : List Int) (x y : Nat) (rows : List Int) : drawn page (x % 64) (y % 32) rows = drawn page x y rows := by
 unfold drawn
 rw [Nat.mod_mod,Nat.mod_mod]
theorem set_pgG {g : GM} {sv pv mv v : Value} (l : List Int) : (g.cells sv pv mv).set 21 v = GM.cells { g with pg := l } sv v mv := rfl
set_option maxHeartbeats 1000000 in
set_option maxRecDepth 100000 in
theorem refdraw_spec {Γ : Ctx} (hP : Γ.P = Tryz.prog) {L : Hp} {g : GM} {sv pv mv fv : Value} {o : Ord} {f : Fnt} {s1 s2 s3 : Slot} (hr : Rows g sv pv mv s1 s2 s3) (hg : OkG g) (hfo : OkF f) (hf : SlI .u8 (Cell Γ L) fv f.bs) (hml : g.mm.length = 3232) (hpl : g.pg.length = 256) (hfl : f.bs.length ≤ 65536) (hn : o.n < 16) (hx : o.x < 16) (hy : o.y < 16) :
  SCall Γ 69 #[(.agg (g.cells sv pv mv).toArray),(.agg o.cells.toArray),(.agg (f.cells fv).toArray),(.int .u8 (vG g o.x)),(.int .u8 (vG g o.y))] (s1 :: s2 :: s3 :: L) (doneR (drawG g o f) L) := by
 have hbx : 0 ≤ vG g o.x ∧ vG g o.x ≤ 255 := byte_at hg.Vb o.x
 have hby : 0 ≤ vG g o.y ∧ vG g o.y ≤ 255 := byte_at hg.Vb o.y
 have hIb := hg.I
 obtain ⟨A1,c1,hv1,_,_⟩ := Row.form hr.st
 obtain ⟨A2,c2,hv2,_,_⟩ := Row.form hr.pg
 obtain ⟨A3,c3,hv3,_,_⟩ := Row.form hr.mm
 subst hv1 hv2 hv3
 refine SCall.enter (n := 51) (resX Γ [.cell 10 27,.tmp 11]) (hP ▸ Tryz.func69) rfl rfl (by simp) (resX_ok rfl) ?_
 refine SX.seq_k fun K1 hK1=>?_
 refine SX.region_d [some 5,some 6,some 7,some 10,some 11] rfl (fun ops hops=>?_)
 unfold Dsts at hops
 simp (dsimp:=false)(disch:=omega) only [go_sem,ia_someH,hP,hops]
 intro bg
 try refine stI ?_
 try simp (dsimp:=false)(disch:=omega) only [go_sem,ia_someH,hP,hops]
 intro bo
 try refine stI ?_
 try simp (dsimp:=false)(disch:=omega) only [go_sem,ia_someH,hP,hops]
 intro bf
 try refine stI ?_
 try simp (dsimp:=false)(disch:=omega) only [go_sem,ia_someH,hP,hops]
 intro b8
 try refine stI ?_
 try simp (dsimp:=false)(disch:=omega) only [go_sem,ia_someH,hP,hops]
 refine hK1 _ _ ?_
 try clear hK1 K1
 refine SX.seq_k fun K2 hK2=>?_
 refine SX.region_d [some 18,some 19,some 20,some 21,some 22,some 23,some 24,some 25,some 26,some 17,some 27,some 28,some 12,some 13] rfl (fun ops hops=>?_)
 unfold Dsts at hops
 simp (dsimp:=false)(disch:=omega) only [go_sem,ia_someH,hP,hops]
 (iterate 23 refine ⟨_,Cell.at 3 rfl rfl,?_⟩)
 try refine stI ?_
 try simp (dsimp:=false)(disch:=omega) only [go_sem,ia_someH,hP,hops]
 (iterate 18 refine ⟨_,Cell.at 1 rfl rfl,?_⟩)
 try refine stI ?_
 try simp (dsimp:=false)(disch:=omega) only [go_sem,ia_someH,hP,hops]
 refine ⟨_,Cell.at 3 rfl (show (GM.cells _ _ _ _)[16]? = _ from rfl),?_⟩
 try refine stI ?_
 try simp (dsimp:=false)(disch:=omega) only [go_sem,ia_someH,hP,hops]
 refine ⟨_,Cell.at 2 rfl (show (Ord.cells _)[3]? = _ from rfl),?_⟩
 try refine stI ?_
 try simp (dsimp:=false)(disch:=omega) only [go_sem,ia_someH,hP,hops]
 refine SCall.mono (refRead_spec (n := o.n) hP (by omega) hg (RowI.sl (i := 6) hr.mm rfl) (by exact (SlI.cons _ (SlI.cons _ (SlI.cons _ (SlI.cons _ (SlI.cons _ (SlI.cons _ (SlI.cons _ hf)))))))) hml hfl hfo.from_) ?_
 intro v_ L_ hl_
 try refine stI ?_
 try simp (dsimp:=false)(disch:=omega) only [go_sem,ia_someH,hP,hops]
 unfold rowR at hl_
 rcases hrow : rowG g f o.n with _ | rows
 ·skip
  try refine stI ?_
  rw [hrow] at hl_
  obtain ⟨rfl,rfl⟩ := hl_
  try refine stI ?_
  try simp (dsimp:=false)(disch:=omega) only [go_sem,ia_someH,hP,hops]
  refine hK2 _ _ ?_
  try clear hK2 K2
  refine SX.live [3,4,5,10,12,13] (fun T1 hT1=>?_)
  simp only [forall_mem_cons',forall_mem_nil',go_sem,ia_someH,hP] at hT1
  obtain ⟨h1_3,h1_4,h1_5,h1_10,h1_12,h1_13⟩ := hT1
  refine SX.seq_k fun K3 hK3=>?_
  refine SX.seq_k fun K4 hK4=>?_
  refine SX.region_d [some 29,some 30] rfl (fun ops hops=>?_)
  unfold Dsts at hops
  simp (dsimp:=false)(disch:=omega) only [go_sem,ia_someH,hP,h1_3,h1_4,h1_5,h1_10,h1_12,h1_13,hops]
  refine hK4 _ _ ?_
  try clear hK4 K4
  refine SX.cond_k fun X5 Y5 hX5 hY5=>?_
  simp (dsimp:=false)(disch:=omega) only [go_sem,ia_someH,hP,h1_3,h1_4,h1_5,h1_10,h1_12,h1_13,condVC]
  refine hX5 ?_
  clear hX5 hY5 X5 Y5
  refine SX.seq_k fun K6 hK6=>?_
  refine SX.region_d [some 31,none,some 11] rfl (fun ops hops=>?_)
  unfold Dsts at hops
  simp (dsimp:=false)(disch:=omega) only [go_sem,ia_someH,hP,h1_3,h1_4,h1_5,h1_10,h1_12,h1_13,hops]
  (iterate 23 refine ⟨_,Cell.at 3 rfl rfl,?_⟩)
  try refine stI ?_
  try simp (dsimp:=false)(disch:=omega) only [go_sem,ia_someH,hP,h1_3,h1_4,h1_5,h1_10,h1_12,h1_13,hops]
  refine ⟨0,_,_,_,rfl,(by decide),.inr (by decide),?_⟩
  try refine stI ?_
  try simp (dsimp:=false)(disch:=omega) only [go_sem,ia_someH,hP,h1_3,h1_4,h1_5,h1_10,h1_12,h1_13,hops]
  refine hK6 _ _ ?_
  try clear hK6 K6
  refine SX.ret ?_
  simp only [andThen_normal,andThen_ret,andThen_exit,inBlk_normal,inBlk_ret,inBlk_exit,Nat.reduceEqDiff,if_true,if_false,↓reduceIte,retQ_ret]
  try simp only [res0,res1,res2,res3,stK_e,resX,resK,oneOr,ld_ptr,loadVC,loadN,List.nil_append,List.cons_append,Nat.reduceAdd,Nat.add_zero,Nat.zero_add,Addr.add_lit,Addr.add_zero',add_addS,T.elA_27,T.lay_27,T.szA_27,T.zr_27,Tryz.underlying27,go_sem,ia_someH,hP,h1_3,h1_4,h1_5,h1_10,h1_12,h1_13]
  refine ⟨_,_,Less.drop _ _ |>.trans (Less.drop _ _ |>.trans (Less.drop _ _ |>.trans (Less.drop _ _))),⟨_,Cell.at 0 rfl rfl,_,Cell.at 0 rfl rfl,_,Cell.at 0 rfl rfl,_,Cell.at 0 rfl rfl,_,Cell.at 0 rfl rfl,_,Cell.at 0 rfl rfl,_,Cell.at 0 rfl rfl,_,Cell.at 0 rfl rfl,_,Cell.at 0 rfl rfl,_,Cell.at 0 rfl rfl,_,Cell.at 0 rfl rfl,_,Cell.at 0 rfl rfl,_,Cell.at 0 rfl rfl,_,Cell.at 0 rfl rfl,_,Cell.at 0 rfl rfl,_,Cell.at 0 rfl rfl,_,Cell.at 0 rfl rfl,_,Cell.at 0 rfl rfl,_,Cell.at 0 rfl rfl,_,Cell.at 0 rfl rfl,_,Cell.at 0 rfl rfl,_,Cell.at 0 rfl rfl,_,Cell.at 0 rfl rfl,rfl⟩,?_⟩
  unfold drawG
  rw [hrow]
  exact ⟨g,_,_,_,s1,s2,s3,rfl,rfl,hr,fun h=>absurd (show (7 : Int) = 1 from h) (by decide)⟩
 skip
 try refine stI ?_
 rw [hrow] at hl_
 obtain ⟨v1,q1,rfl,rfl,hr1⟩ := hl_
 try refine stI ?_
 try simp (dsimp:=false)(disch:=omega) only [go_sem,ia_someH,hP,hops]
 refine hK2 _ _ ?_
 try clear hK2 K2
 refine SX.live [3,4,5,10,12,13] (fun T2 hT2=>?_)
 simp only [forall_mem_cons',forall_mem_nil',go_sem,ia_someH,hP] at hT2
 obtain ⟨h2_3,h2_4,h2_5,h2_10,h2_12,h2_13⟩ := hT2
 refine SX.seq_k fun K7 hK7=>?_
 refine SX.seq_k fun K8 hK8=>?_
 refine SX.region_d [some 29,some 30] rfl (fun ops hops=>?_)
 unfold Dsts at hops
 simp (dsimp:=false)(disch:=omega) only [go_sem,ia_someH,hP,h2_3,h2_4,h2_5,h2_10,h2_12,h2_13,hops]
 refine hK8 _ _ ?_
 try clear hK8 K8
 refine SX.cond_k fun X9 Y9 hX9 hY9=>?_
 simp (dsimp:=false)(disch:=omega) only [go_sem,ia_someH,hP,h2_3,h2_4,h2_5,h2_10,h2_12,h2_13,condVC]
 refine hY9 ?_
 clear hX9 hY9 X9 Y9
 refine SX.skip ?_
 try simp only [andThen_normal,andThen_ret,andThen_exit,inBlk_normal,inBlk_ret,inBlk_exit,Nat.reduceEqDiff,if_true,if_false,↓reduceIte]
 refine hK7 _ _ ?_
 try clear hK7 K7
 refine SX.seq_k fun K10 hK10=>?_
 obtain ⟨X,hX⟩ : ∃ X : Nat,g.V.getD o.x 0 = (X : Int) := ⟨_,(Int.toNat_of_nonneg hbx.1).symm⟩
 obtain ⟨Y,hY⟩ : ∃ Y : Nat,g.V.getD o.y 0 = (Y : Int) := ⟨_,(Int.toNat_of_nonneg hby.1).symm⟩
 have hX' : vG g o.x = (X : Int) := hX
 have hY' : vG g o.y = (Y : Int) := hY
 have hrl := rowG_length hrow
 have hrb : ByteN rows := Byte.toN (rowG_byte hg.mm hfo.bs hrow)
 have q2 : (X : Int).tmod 64 = ((X % 64 : Nat) : Int) := rfl
 have q3 : (Y : Int).tmod 32 = ((Y % 32 : Nat) : Int) := rfl
 refine SX.region_d [some 33,some 34,some 35,some 36,some 37,some 38,some 39,some 40,some 32,some 41,some 42,some 43,some 14,some 15,some 16] rfl (fun ops hops=>?_)
 unfold Dsts at hops
 simp (dsimp:=false)(disch:=omega) only [go_sem,ia_someH,hP,h2_3,h2_4,h2_5,h2_10,h2_12,h2_13,hops,hX',hY',q2,q3]
 refine ⟨_,Cell.at 4 rfl (show (GM.cells _ _ _ _)[21]? = _ from rfl),?_⟩
 try refine stI ?_
 try simp (dsimp:=false)(disch:=omega) only [go_sem,ia_someH,hP,h2_3,h2_4,h2_5,h2_10,h2_12,h2_13,hops,hX',hY',q2,q3]
 refine SCall.mono (refDraw_spec (x := X % 64) (y := Y % 32) hP (by omega) (by omega) (RowI.sl (i := 6) hr.pg rfl) (RowI.sl (i := 0) hr1 rfl) hrb hpl (by omega)) ?_
 rintro v_ L_ ⟨vp,sp,rfl,rfl,hsp⟩
 rw [drawn_mod] at hsp
 rw [drawn_mod]
 obtain ⟨Av,cv,hvp,_,_⟩ := Row.form hsp
 subst hvp
 try refine stI ?_
 try simp (dsimp:=false)(disch:=omega) only [go_sem,ia_someH,hP,h2_3,h2_4,h2_5,h2_10,h2_12,h2_13,hops,hX',hY',q2,q3]
 refine hK10 _ _ ?_
 try clear hK10 K10
 refine SX.live [5,10,14,15] (fun T3 hT3=>?_)
 simp only [forall_mem_cons',forall_mem_nil',go_sem,ia_someH,hP,h2_3,h2_4,h2_5,h2_10,h2_12,h2_13] at hT3
 obtain ⟨h3_5,h3_10,h3_14,h3_15⟩ := hT3
 clear h2_3 h2_4 h2_5 h2_10 h2_12 h2_13 T2
 refine SX.seq_k fun K11 hK11=>?_
 refine SX.region_d [some 44,some 45,none] rfl (fun ops hops=>?_)
 unfold Dsts at hops
 simp (dsimp:=false)(disch:=omega) only [go_sem,ia_someH,hP,h3_5,h3_10,h3_14,h3_15,hops]
 refine ⟨5,_,_,_,rfl,(by simp [GM.cells]),.inr (Nat.zero_le _),?_⟩
 try refine stI ?_
 try simp (dsimp:=false)(disch:=omega) only [go_sem,ia_someH,hP,h3_5,h3_10,h3_14,h3_15,hops]
 rw [set_pgG (drawn g.pg X Y rows).2]
 refine hK11 _ _ ?_
 try clear hK11 K11
 refine SX.seq_k fun K12 hK12=>?_
 refine SX.region_d [some 46,some 47,some 48,some 49,none] rfl (fun ops hops=>?_)
 unfold Dsts at hops
 simp (dsimp:=false)(disch:=omega) only [go_sem,ia_someH,hP,h3_5,h3_10,h3_14,h3_15,hops]
 refine SCall.mono (one_spec hP) ?_
 rintro v_ L_ ⟨rfl,rfl⟩
 try refine stI ?_
 try simp (dsimp:=false)(disch:=omega) only [go_sem,ia_someH,hP,h3_5,h3_10,h3_14,h3_15,hops]
 refine ⟨5,_,_,_,rfl,(by simp [GM.cells]),.inr (Nat.zero_le _),?_⟩
 try refine stI ?_
 try simp (dsimp:=false)(disch:=omega) only [go_sem,ia_someH,hP,h3_5,h3_10,h3_14,h3_15,hops]
 rw [gV_set (g := { g with pg := (drawn g.pg X Y rows).2 }) hg.V (by decide)]
 refine hK12 _ _ ?_
 try clear hK12 K12
 refine SX.seq_k fun K13 hK13=>?_
 refine SX.region_d [some 50,none,some 11] rfl (fun ops hops=>?_)
 unfold Dsts at hops
 simp (dsimp:=false)(disch:=omega) only [go_sem,ia_someH,hP,h3_5,h3_10,h3_14,h3_15,hops]
 (iterate 23 refine ⟨_,Cell.at 5 rfl rfl,?_⟩)
 try refine stI ?_
 try simp (dsimp:=false)(disch:=omega) only [go_sem,ia_someH,hP,h3_5,h3_10,h3_14,h3_15,hops]
 refine ⟨2,_,_,_,rfl,(by decide),.inr (by decide),?_⟩
 try refine stI ?_
 try simp (dsimp:=false)(disch:=omega) only [go_sem,ia_someH,hP,h3_5,h3_10,h3_14,h3_15,hops]
 refine hK13 _ _ ?_
 try clear hK13 K13
 refine SX.ret ?_
 simp only [andThen_normal,andThen_ret,andThen_exit,inBlk_normal,inBlk_ret,inBlk_exit,Nat.reduceEqDiff,if_true,if_false,↓reduceIte,retQ_ret]
 try simp only [res0,res1,res2,res3,stK_e,resX,resK,oneOr,ld_ptr,loadVC,loadN,List.nil_append,List.cons_append,Nat.reduceAdd,Nat.add_zero,Nat.zero_add,Addr.add_lit,Addr.add_zero',add_addS,T.elA_27,T.lay_27,T.szA_27,T.zr_27,Tryz.underlying27,go_sem,ia_someH,hP,h3_5,h3_10,h3_14,h3_15]
 refine ⟨_,_,(lessPut sp 6 _).trans less5d,⟨_,Cell.at 2 rfl rfl,_,Cell.at 2 rfl rfl,_,Cell.at 2 rfl rfl,_,Cell.at 2 rfl rfl,_,Cell.at 2 rfl rfl,_,Cell.at 2 rfl rfl,_,Cell.at 2 rfl rfl,_,Cell.at 2 rfl rfl,_,Cell.at 2 rfl rfl,_,Cell.at 2 rfl rfl,_,Cell.at 2 rfl rfl,_,Cell.at 2 rfl rfl,_,Cell.at 2 rfl rfl,_,Cell.at 2 rfl rfl,_,Cell.at 2 rfl rfl,_,Cell.at 2 rfl rfl,_,Cell.at 2 rfl rfl,_,Cell.at 2 rfl rfl,_,Cell.at 2 rfl rfl,_,Cell.at 2 rfl rfl,_,Cell.at 2 rfl rfl,_,Cell.at 2 rfl rfl,_,Cell.at 2 rfl rfl,rfl⟩,?_⟩
 unfold drawG
 rw [hrow,hX',hY']
 exact ⟨{ g with pg := (drawn g.pg X Y rows).2,V := g.V.set 15 (truthI (drawn g.pg X Y rows).1) },_,_,_,s1,sp,s3,rfl,rfl,⟨hr.st,hsp,hr.mm⟩,fun _=>rfl⟩

end Go.Proofs.YtgioegdjeodpiaaGreat
