/- A part of a proof: contracts and plain facts that it stands on. -/
import Derived.Test.YtpakphgeichopaaDoorCA
set_option linter.unusedVariables false
set_option linter.unusedSimpArgs false
namespace Go.Proofs.YtpakphgeichopaaDoor
open Go.RowKit Go.SX
open Nat renaming reduceEqDiff → Φa, reduceBEq → Φp, reduceLeDiff → ΦS, reduceAdd → Ψb, reduceMul → Ψd, reduceSub → Ψe, add_zero → Ψg, zero_add → Ψh, reduceLT → Ψj, mul_one → Ψn, zero_le → Ψo, le_refl → Ψp
open Bool renaming false_eq_true → Φb, true_eq_false → Φc, not_eq_false' → Φd, not_eq_true' → Φe, not_eq_false → Φg, not_eq_true → Φh, not_false → Φk, and_false → Φl, false_and → Φm, not_true → Φq, and_true → Φr, true_and → Φs, and_self → Φt
open Decidable renaming not_not → Φf
open Go.SX renaming andThen_normal → Φi, andThen_exit → Φn, inBlk_normal → Φo, andThen_ret → Φu, inBlk_exit → Φw, inBlk_ret → Φx, env0_zero → Φy, env0_succ → Φz, env0_nil → ΦI, upd_app → ΦU, less_refl_t → Ψl, less_drop_t → Ψm, existsSome → Ψs, guardVC → Ψv, add_addS → Ψw, VCplan → Ψx, cells_nilIface → Ψy, cells_pointer → Ψz, cells_nilFunc → ΨA, cells_string → ΨB, one_nilIface → ΨC, cells_slice → ΨD, one_pointer → ΨE, one_nilFunc → ΨF, cells_iface → ΨG, forall_mem_cons' → ΨH
open Int renaming natCast_inj → Φj, reduceEq → Φv, toNat_natCast → Ψf, reduceToNat → Ψk, toNat_zero → Ψr, toNat_one → Ψt
open List renaming toList_toArray → ΦA, append_toArray → ΦB, drop_succ_cons → ΦC, take_succ_cons → ΦD, set_cons_zero → ΦG, set_cons_succ → ΦH, flatMap_cons → ΦK, size_toArray → ΦL, cons_append → ΦM, map_toArray → ΦP, flatMap_nil → ΦQ, length_cons → ΦR, nil_append → ΦT, append_nil → ΦX, length_nil → ΦY, drop_zero → ΦZ, take_zero → Ψa, map_cons → Ψc, map_nil → Ψi
open Option renaming isSome_some → ΦE, isSome_none → ΦF, bind_some → ΦN, bind_none → ΦO, map_some → ΦV, map_none → ΦW
open Option.some renaming injEq → ΦJ
open Go.Addr renaming add_zero' → Ψq, add_lit → Ψu

/-- Pairs of numbers, one behind the other. -/
def Pairs (Γ : Ctx) (a : Addr) (bs : List (Int × Int)) : Prop := ∀ (L : Hp) (i : Nat) (b : Int × Int), bs[i]? = some b → Cell Γ L (a.add (i * 2)) (.int .i64 b.1) ∧ Cell Γ L (a.add (i * 2 + 1)) (.int .i64 b.2)
def inB (n : Int) (b : Int × Int) : Bool := decide (b.1 ≤ n ∧ n ≤ b.2)
theorem take_any {bs : List (Int × Int)} {n : Int} {i : Nat} {b : Int × Int} (h : bs[i]? = some b) : (bs.take (i + 1)).any (inB n) = ((bs.take i).any (inB n) || inB n b) := by
  rw [List.take_add_one, h, List.any_append]
  simp
set_option maxHeartbeats 1000000 in
set_option maxRecDepth 100000 in
theorem within_spec {Γ : Ctx} (hP : Γ.P = Tryd.prog) {L : Hp} {n : Int} {a : Addr} {bs : List (Int × Int)} (hp : Pairs Γ a bs) (hm : bs.length ≤ 9223372036854775807) :
    SCall Γ 47 #[(.int .i64 n), (.slice (some a) bs.length bs.length)] L (fun v L' => v = .bool (bs.any (inB n)) ∧ L' = L) := by
  refine SCall.enter (n := 24) (res1 4) (hP ▸ Tryd.func47) rfl rfl (by simp) (res1_ok rfl) ?_
  refine SX.seq_k fun K1 hK1 => ?_
  refine SX.region ?_
  simp (maxSteps := 1000000) only [ΦU,Φy,Φz,ΦI,ev,Φi,Φu,Φn,Φo,Φx,Φw,Φa,Φp,reduceIte,reduceCtorEq,if_true,if_false,Φq,Φk,Φb,Φc,true_and,and_true,false_and,and_false,true_implies,forall_const,false_implies,ne_eq,not_true_eq_false,not_false_eq_true,decide_true,decide_false,Φv,and_self,true_or,or_true,dite_true,dite_false,Φe,Φd,decide_eq_true_eq,decide_eq_false_iff_not,Φf,Φh,Φg,Φj,beq_self_eq_true,Φr,Φs,Φt,Φl,Φm,eq_self,Ψx,Ψl,Ψm,VCops,VQops,Ψv,putVC,VC,VQ,ΦV,ΦW,ΦN,ΦO,ΦE,ΦF,ΦJ,List.getElem?_cons_zero,List.getElem?_cons_succ,List.getElem?_nil,List.getElem?_toArray,Ψc,Ψi,ΦP,ΦA,ΦB,ΦT,ΦM,ΦX,ΦK,ΦQ,ΦR,ΦY,ΦG,ΦH,ΦZ,ΦC,ΦD,Ψa,ΦL,Ψj,ΦS,Ψb,Ψd,Ψe,Ψg,Ψh,Ψn,exists_eq_left,exists_eq_left',exists_const,Ψs,Ψo,Ψp,hP]
  refine hK1 _ _ ?_
  try clear hK1 K1
  refine SX.seq_k fun K2 hK2 => ?_
  refine SX.seq_k fun K3 hK3 => ?_
  refine SX.region ?_
  simp (maxSteps := 1000000) only [ΦU,Φy,Φz,ΦI,ev,Φi,Φu,Φn,Φo,Φx,Φw,Φa,Φp,reduceIte,reduceCtorEq,if_true,if_false,Φq,Φk,Φb,Φc,true_and,and_true,false_and,and_false,true_implies,forall_const,false_implies,ne_eq,not_true_eq_false,not_false_eq_true,decide_true,decide_false,Φv,and_self,true_or,or_true,dite_true,dite_false,Φe,Φd,decide_eq_true_eq,decide_eq_false_iff_not,Φf,Φh,Φg,Φj,beq_self_eq_true,Φr,Φs,Φt,Φl,Φm,eq_self,Ψx,Ψl,Ψm,VCops,VQops,Ψv,putVC,VC,VQ,ΦV,ΦW,ΦN,ΦO,ΦE,ΦF,ΦJ,List.getElem?_cons_zero,List.getElem?_cons_succ,List.getElem?_nil,List.getElem?_toArray,Ψc,Ψi,ΦP,ΦA,ΦB,ΦT,ΦM,ΦX,ΦK,ΦQ,ΦR,ΦY,ΦG,ΦH,ΦZ,ΦC,ΦD,Ψa,ΦL,Ψj,ΦS,Ψb,Ψd,Ψe,Ψg,Ψh,Ψn,exists_eq_left,exists_eq_left',exists_const,Ψs,Ψo,Ψp,qcall_f,call_f,len_slice,len_str,cap_slice,min_int,max_int,T.elS_88,T.szA_88,T.zr_88,Tryd.underlying88,hP]
  refine hK3 _ _ ?_
  try clear hK3 K3
  refine SX.block ?_
  refine SX.live [0, 7, 8, 9] (fun T1 hT1 => ?_)
  simp only [ΨH,forall_mem_nil',ΦU,Φy,Φz,ΦI,ev,Φi,Φu,Φn,Φo,Φx,Φw,Φa,Φp,reduceIte,reduceCtorEq,if_true,if_false,Φq,Φk,Φb,Φc,true_and,and_true,false_and,and_false,true_implies,forall_const,false_implies,ne_eq,not_true_eq_false,not_false_eq_true,decide_true,decide_false,Φv,and_self,true_or,or_true,dite_true,dite_false,Φe,Φd,decide_eq_true_eq,decide_eq_false_iff_not,Φf,Φh,Φg,Φj,beq_self_eq_true,Φr,Φs,Φt,Φl,Φm,eq_self,hP] at hT1
  obtain ⟨h1_0, h1_7, h1_8, h1_9⟩ := hT1
  refine SX.loop_k (fun (ss : (Nat)) T L' => (fun (i : Nat) => T 9 = .int .i64 (i : Int) ∧ T 0 = T1 0 ∧ T 7 = T1 7 ∧ T 8 = T1 8 ∧ L' = L ∧ (i ≤ bs.length ∧ (bs.take i).any (inB n) = false)) (ss)) (fun (ss : (Nat)) => (fun (i : Nat) => bs.length - i) (ss)) 0 ?_ ?_
  · try dsimp only
    refine ⟨?_, ?_, ?_, ?_, ?_, ?_⟩
    · first | exact h1_9 | (rw [h1_9]; rfl) | (rw [h1_9]; simp; done)
    · rfl
    · rfl
    · rfl
    · rfl
    · exact ⟨Nat.zero_le _, rfl⟩
  · intro i T2 L2 hI K4 hK4
    try dsimp only at hI hK4
    simp only [h1_0, h1_7, h1_8] at hI hK4
    obtain ⟨h2_9, h2_0, h2_7, h2_8, hL2, ⟨hi, hno⟩⟩ := hI
    replace hL2 := hL2.symm
    subst hL2
    clear h1_0 h1_7 h1_8 h1_9 T1
    refine SX.seq_k fun K5 hK5 => ?_
    refine SX.region ?_
    simp (maxSteps := 1000000) only [ΦU,Φy,Φz,ΦI,ev,Φi,Φu,Φn,Φo,Φx,Φw,Φa,Φp,reduceIte,reduceCtorEq,if_true,if_false,Φq,Φk,Φb,Φc,true_and,and_true,false_and,and_false,true_implies,forall_const,false_implies,ne_eq,not_true_eq_false,not_false_eq_true,decide_true,decide_false,Φv,and_self,true_or,or_true,dite_true,dite_false,Φe,Φd,decide_eq_true_eq,decide_eq_false_iff_not,Φf,Φh,Φg,Φj,beq_self_eq_true,Φr,Φs,Φt,Φl,Φm,eq_self,Ψx,Ψl,Ψm,VCops,VQops,Ψv,putVC,VC,VQ,ΦV,ΦW,ΦN,ΦO,ΦE,ΦF,ΦJ,List.getElem?_cons_zero,List.getElem?_cons_succ,List.getElem?_nil,List.getElem?_toArray,Ψc,Ψi,ΦP,ΦA,ΦB,ΦT,ΦM,ΦX,ΦK,ΦQ,ΦR,ΦY,ΦG,ΦH,ΦZ,ΦC,ΦD,Ψa,ΦL,Ψj,ΦS,Ψb,Ψd,Ψe,Ψg,Ψh,Ψn,exists_eq_left,exists_eq_left',exists_const,Ψs,Ψo,Ψp,bin_lss,hP,h2_9,h2_0,h2_7,h2_8]
    refine hK5 _ _ ?_
    try clear hK5 K5
    refine SX.seq_k fun K6 hK6 => ?_
    refine SX.cond_k fun X7 Y7 hX7 hY7 => ?_
    simp (maxSteps := 1000000) only [ΦU,Φy,Φz,ΦI,ev,Φi,Φu,Φn,Φo,Φx,Φw,Φa,Φp,reduceIte,reduceCtorEq,if_true,if_false,Φq,Φk,Φb,Φc,true_and,and_true,false_and,and_false,true_implies,forall_const,false_implies,ne_eq,not_true_eq_false,not_false_eq_true,decide_true,decide_false,Φv,and_self,true_or,or_true,dite_true,dite_false,Φe,Φd,decide_eq_true_eq,decide_eq_false_iff_not,Φf,Φh,Φg,Φj,beq_self_eq_true,Φr,Φs,Φt,Φl,Φm,eq_self,hP,h2_9,h2_0,h2_7,h2_8,condVC]
    refine ⟨fun hc10 => hX7 ?_, fun hc10 => hY7 ?_⟩
    · clear hX7 hY7 X7 Y7
      refine SX.skip ?_
      simp only [Φi, Φu, Φn, Φo, Φx, Φw, Φa, if_true, if_false, reduceIte]
      refine hK6 _ _ ?_
      try clear hK6 K6
      refine SX.seq_k fun K8 hK8 => ?_
      refine SX.block ?_
      refine SX.seq_k fun K9 hK9 => ?_
      obtain ⟨b, hb⟩ : ∃ b, bs[i]? = some b := ⟨_, List.getElem?_eq_getElem (by omega)⟩
      obtain ⟨hb1, hb2⟩ := hp L i b hb
      refine SX.region ?_
      simp (maxSteps := 1000000) only [ΦU,Φy,Φz,ΦI,ev,Φi,Φu,Φn,Φo,Φx,Φw,Φa,Φp,reduceIte,reduceCtorEq,if_true,if_false,Φq,Φk,Φb,Φc,true_and,and_true,false_and,and_false,true_implies,forall_const,false_implies,ne_eq,not_true_eq_false,not_false_eq_true,decide_true,decide_false,Φv,and_self,true_or,or_true,dite_true,dite_false,Φe,Φd,decide_eq_true_eq,decide_eq_false_iff_not,Φf,Φh,Φg,Φj,beq_self_eq_true,Φr,Φs,Φt,Φl,Φm,eq_self,Ψx,Ψl,Ψm,VCops,VQops,Ψv,putVC,VC,VQ,ΦV,ΦW,ΦN,ΦO,ΦE,ΦF,ΦJ,List.getElem?_cons_zero,List.getElem?_cons_succ,List.getElem?_nil,List.getElem?_toArray,Ψc,Ψi,ΦP,ΦA,ΦB,ΦT,ΦM,ΦX,ΦK,ΦQ,ΦR,ΦY,ΦG,ΦH,ΦZ,ΦC,ΦD,Ψa,ΦL,Ψj,ΦS,Ψb,Ψd,Ψe,Ψg,Ψh,Ψn,exists_eq_left,exists_eq_left',exists_const,Ψs,Ψo,Ψp,ia_slice,ia_arr,Ψu,Ψq,Ψw,Ψf,Ψr,Ψt,Ψk,T.elS_88,T.szA_88,T.zr_88,Tryd.underlying88,ld_ptr,loadVC,loadN,T.elA_89,T.lay_89,T.szA_89,T.zr_89,Tryd.underlying89,cells_int,cells_bool,ΨB,Ψz,ΨD,cells_agg,oneB_nil,oneB_cons,one_int,one_bool,one_string,ΨE,one_slice,one_map,one_func,ΨF,ΨC,one_iface,cells_map,cells_func,ΨA,Ψy,ΨG,st_ptr,storeVC,setN,hP,h2_9,h2_0,h2_7,h2_8]
      refine ⟨⟨by omega, by omega⟩, _, hb1, _, hb2, ?_⟩
      try simp (maxSteps := 1000000) only [ΦU,Φy,Φz,ΦI,ev,Φi,Φu,Φn,Φo,Φx,Φw,Φa,Φp,reduceIte,reduceCtorEq,if_true,if_false,Φq,Φk,Φb,Φc,true_and,and_true,false_and,and_false,true_implies,forall_const,false_implies,ne_eq,not_true_eq_false,not_false_eq_true,decide_true,decide_false,Φv,and_self,true_or,or_true,dite_true,dite_false,Φe,Φd,decide_eq_true_eq,decide_eq_false_iff_not,Φf,Φh,Φg,Φj,beq_self_eq_true,Φr,Φs,Φt,Φl,Φm,eq_self,Ψx,Ψl,Ψm,VCops,VQops,Ψv,putVC,VC,VQ,ΦV,ΦW,ΦN,ΦO,ΦE,ΦF,ΦJ,List.getElem?_cons_zero,List.getElem?_cons_succ,List.getElem?_nil,List.getElem?_toArray,Ψc,Ψi,ΦP,ΦA,ΦB,ΦT,ΦM,ΦX,ΦK,ΦQ,ΦR,ΦY,ΦG,ΦH,ΦZ,ΦC,ΦD,Ψa,ΦL,Ψj,ΦS,Ψb,Ψd,Ψe,Ψg,Ψh,Ψn,exists_eq_left,exists_eq_left',exists_const,Ψs,Ψo,Ψp,ia_slice,ia_arr,Ψu,Ψq,Ψw,Ψf,Ψr,Ψt,Ψk,T.elS_88,T.szA_88,T.zr_88,Tryd.underlying88,ld_ptr,loadVC,loadN,T.elA_89,T.lay_89,T.szA_89,T.zr_89,Tryd.underlying89,cells_int,cells_bool,ΨB,Ψz,ΨD,cells_agg,oneB_nil,oneB_cons,one_int,one_bool,one_string,ΨE,one_slice,one_map,one_func,ΨF,ΨC,one_iface,cells_map,cells_func,ΨA,Ψy,ΨG,st_ptr,storeVC,setN,hP,h2_9,h2_0,h2_7,h2_8]
      intro bk
      refine ⟨0, _, _, _, rfl, by decide, .inr (by decide), ?_⟩
      try simp (maxSteps := 1000000) only [ΦU,Φy,Φz,ΦI,ev,Φi,Φu,Φn,Φo,Φx,Φw,Φa,Φp,reduceIte,reduceCtorEq,if_true,if_false,Φq,Φk,Φb,Φc,true_and,and_true,false_and,and_false,true_implies,forall_const,false_implies,ne_eq,not_true_eq_false,not_false_eq_true,decide_true,decide_false,Φv,and_self,true_or,or_true,dite_true,dite_false,Φe,Φd,decide_eq_true_eq,decide_eq_false_iff_not,Φf,Φh,Φg,Φj,beq_self_eq_true,Φr,Φs,Φt,Φl,Φm,eq_self,Ψx,Ψl,Ψm,VCops,VQops,Ψv,putVC,VC,VQ,ΦV,ΦW,ΦN,ΦO,ΦE,ΦF,ΦJ,List.getElem?_cons_zero,List.getElem?_cons_succ,List.getElem?_nil,List.getElem?_toArray,Ψc,Ψi,ΦP,ΦA,ΦB,ΦT,ΦM,ΦX,ΦK,ΦQ,ΦR,ΦY,ΦG,ΦH,ΦZ,ΦC,ΦD,Ψa,ΦL,Ψj,ΦS,Ψb,Ψd,Ψe,Ψg,Ψh,Ψn,exists_eq_left,exists_eq_left',exists_const,Ψs,Ψo,Ψp,ia_slice,ia_arr,Ψu,Ψq,Ψw,Ψf,Ψr,Ψt,Ψk,T.elS_88,T.szA_88,T.zr_88,Tryd.underlying88,ld_ptr,loadVC,loadN,T.elA_89,T.lay_89,T.szA_89,T.zr_89,Tryd.underlying89,cells_int,cells_bool,ΨB,Ψz,ΨD,cells_agg,oneB_nil,oneB_cons,one_int,one_bool,one_string,ΨE,one_slice,one_map,one_func,ΨF,ΨC,one_iface,cells_map,cells_func,ΨA,Ψy,ΨG,st_ptr,storeVC,setN,hP,h2_9,h2_0,h2_7,h2_8]
      refine hK9 _ _ ?_
      try clear hK9 K9
      refine SX.seq_k fun K10 hK10 => ?_
      refine SX.region_x ?_
      refine RX.live [0, 6, 7, 8, 9] (fun T3 hT3 => ?_)
      simp only [ΨH,forall_mem_nil',ΦU,Φy,Φz,ΦI,ev,Φi,Φu,Φn,Φo,Φx,Φw,Φa,Φp,reduceIte,reduceCtorEq,if_true,if_false,Φq,Φk,Φb,Φc,true_and,and_true,false_and,and_false,true_implies,forall_const,false_implies,ne_eq,not_true_eq_false,not_false_eq_true,decide_true,decide_false,Φv,and_self,true_or,or_true,dite_true,dite_false,Φe,Φd,decide_eq_true_eq,decide_eq_false_iff_not,Φf,Φh,Φg,Φj,beq_self_eq_true,Φr,Φs,Φt,Φl,Φm,eq_self,hP,h2_9,h2_0,h2_7,h2_8] at hT3
      obtain ⟨h3_0, h3_6, h3_7, h3_8, h3_9⟩ := hT3
      clear h2_9 h2_0 h2_7 h2_8 T2
      refine RX.join 10 (fun (ss : Unit) T L' => T 22 = .bool (decide (b.1 ≤ n ∧ n ≤ b.2)) ∧ T 0 = T3 0 ∧ T 7 = T3 7 ∧ T 8 = T3 8 ∧ T 9 = T3 9 ∧ L' = some (bk, .cells #[.int .i64 b.1, .int .i64 b.2] 89 (0, 0)) :: L ∧ (True)) (fun K11 hK11 => ?_) ?_
      · simp only [h3_0, h3_7, h3_8, h3_9] at hK11
        simp (maxSteps := 1000000) only [ΦU,Φy,Φz,ΦI,ev,Φi,Φu,Φn,Φo,Φx,Φw,Φa,Φp,reduceIte,reduceCtorEq,if_true,if_false,Φq,Φk,Φb,Φc,true_and,and_true,false_and,and_false,true_implies,forall_const,false_implies,ne_eq,not_true_eq_false,not_false_eq_true,decide_true,decide_false,Φv,and_self,true_or,or_true,dite_true,dite_false,Φe,Φd,decide_eq_true_eq,decide_eq_false_iff_not,Φf,Φh,Φg,Φj,beq_self_eq_true,Φr,Φs,Φt,Φl,Φm,eq_self,Ψx,Ψl,Ψm,VCops,VQops,Ψv,putVC,VC,VQ,ΦV,ΦW,ΦN,ΦO,ΦE,ΦF,ΦJ,List.getElem?_cons_zero,List.getElem?_cons_succ,List.getElem?_nil,List.getElem?_toArray,Ψc,Ψi,ΦP,ΦA,ΦB,ΦT,ΦM,ΦX,ΦK,ΦQ,ΦR,ΦY,ΦG,ΦH,ΦZ,ΦC,ΦD,Ψa,ΦL,Ψj,ΦS,Ψb,Ψd,Ψe,Ψg,Ψh,Ψn,exists_eq_left,exists_eq_left',exists_const,Ψs,Ψo,Ψp,ia_slice,ia_arr,Ψu,Ψq,Ψw,Ψf,Ψr,Ψt,Ψk,T.elA_89,T.lay_89,T.szA_89,T.zr_89,Tryd.underlying89,ld_ptr,loadVC,loadN,T.szA_3,T.zr_3,Tryd.underlying3,bin_geq,bin_leq,pick_bool,hP,h3_0,h3_6,h3_7,h3_8,h3_9]
        repeat' (first | refine iteB (fun hg => ?_) (fun hg => ?_) | refine iteI (fun hg => ?_) (fun hg => ?_) | ((first | refine ⟨by omega, ?_⟩ | refine ⟨_, Cell.at 0 rfl rfl, ?_⟩ | fail); try simp (maxSteps := 1000000) only [ΦU,Φy,Φz,ΦI,ev,Φi,Φu,Φn,Φo,Φx,Φw,Φa,Φp,reduceIte,reduceCtorEq,if_true,if_false,Φq,Φk,Φb,Φc,true_and,and_true,false_and,and_false,true_implies,forall_const,false_implies,ne_eq,not_true_eq_false,not_false_eq_true,decide_true,decide_false,Φv,and_self,true_or,or_true,dite_true,dite_false,Φe,Φd,decide_eq_true_eq,decide_eq_false_iff_not,Φf,Φh,Φg,Φj,beq_self_eq_true,Φr,Φs,Φt,Φl,Φm,eq_self,Ψx,Ψl,Ψm,VCops,VQops,Ψv,putVC,VC,VQ,ΦV,ΦW,ΦN,ΦO,ΦE,ΦF,ΦJ,List.getElem?_cons_zero,List.getElem?_cons_succ,List.getElem?_nil,List.getElem?_toArray,Ψc,Ψi,ΦP,ΦA,ΦB,ΦT,ΦM,ΦX,ΦK,ΦQ,ΦR,ΦY,ΦG,ΦH,ΦZ,ΦC,ΦD,Ψa,ΦL,Ψj,ΦS,Ψb,Ψd,Ψe,Ψg,Ψh,Ψn,exists_eq_left,exists_eq_left',exists_const,Ψs,Ψo,Ψp,ia_slice,ia_arr,Ψu,Ψq,Ψw,Ψf,Ψr,Ψt,Ψk,T.elA_89,T.lay_89,T.szA_89,T.zr_89,Tryd.underlying89,ld_ptr,loadVC,loadN,T.szA_3,T.zr_3,Tryd.underlying3,bin_geq,bin_leq,pick_bool,hP,h3_0,h3_6,h3_7,h3_8,h3_9]) | fail)
        all_goals
          refine hK11 () _ (some (bk, .cells #[.int .i64 b.1, .int .i64 b.2] 89 (0, 0)) :: L) _ (by first | exact Less.refl _ | exact Less.drop _ _ | exact Less.drops (Less.drop _ _) | exact Less.drops (Less.drops (Less.drop _ _)) | exact Less.drops (Less.drops (Less.drops (Less.drop _ _))) | exact Less.drops (Less.drops (Less.drops (Less.drops (Less.drop _ _))))) ?_
          try dsimp only
          refine ⟨?_, ?_, ?_, ?_, ?_, ?_, ?_⟩
          · simp (maxSteps := 1000000) only [ΦU,Φy,Φz,ΦI,ev,Φi,Φu,Φn,Φo,Φx,Φw,Φa,Φp,reduceIte,reduceCtorEq,if_true,if_false,Φq,Φk,Φb,Φc,true_and,and_true,false_and,and_false,true_implies,forall_const,false_implies,ne_eq,not_true_eq_false,not_false_eq_true,decide_true,decide_false,Φv,and_self,true_or,or_true,dite_true,dite_false,Φe,Φd,decide_eq_true_eq,decide_eq_false_iff_not,Φf,Φh,Φg,Φj,beq_self_eq_true,Φr,Φs,Φt,Φl,Φm,eq_self,hP,h3_0,h3_6,h3_7,h3_8,h3_9]
            first | done | exact congrArg _ (decide_eq_decide.2 (by omega)) | exact congrArg _ (decide_eq_true (by omega)).symm | exact congrArg _ (decide_eq_false (by omega)).symm
          · simp (maxSteps := 1000000) only [ΦU,Φy,Φz,ΦI,ev,Φi,Φu,Φn,Φo,Φx,Φw,Φa,Φp,reduceIte,reduceCtorEq,if_true,if_false,Φq,Φk,Φb,Φc,true_and,and_true,false_and,and_false,true_implies,forall_const,false_implies,ne_eq,not_true_eq_false,not_false_eq_true,decide_true,decide_false,Φv,and_self,true_or,or_true,dite_true,dite_false,Φe,Φd,decide_eq_true_eq,decide_eq_false_iff_not,Φf,Φh,Φg,Φj,beq_self_eq_true,Φr,Φs,Φt,Φl,Φm,eq_self,hP,h3_0,h3_6,h3_7,h3_8,h3_9]
          · simp (maxSteps := 1000000) only [ΦU,Φy,Φz,ΦI,ev,Φi,Φu,Φn,Φo,Φx,Φw,Φa,Φp,reduceIte,reduceCtorEq,if_true,if_false,Φq,Φk,Φb,Φc,true_and,and_true,false_and,and_false,true_implies,forall_const,false_implies,ne_eq,not_true_eq_false,not_false_eq_true,decide_true,decide_false,Φv,and_self,true_or,or_true,dite_true,dite_false,Φe,Φd,decide_eq_true_eq,decide_eq_false_iff_not,Φf,Φh,Φg,Φj,beq_self_eq_true,Φr,Φs,Φt,Φl,Φm,eq_self,hP,h3_0,h3_6,h3_7,h3_8,h3_9]
          · simp (maxSteps := 1000000) only [ΦU,Φy,Φz,ΦI,ev,Φi,Φu,Φn,Φo,Φx,Φw,Φa,Φp,reduceIte,reduceCtorEq,if_true,if_false,Φq,Φk,Φb,Φc,true_and,and_true,false_and,and_false,true_implies,forall_const,false_implies,ne_eq,not_true_eq_false,not_false_eq_true,decide_true,decide_false,Φv,and_self,true_or,or_true,dite_true,dite_false,Φe,Φd,decide_eq_true_eq,decide_eq_false_iff_not,Φf,Φh,Φg,Φj,beq_self_eq_true,Φr,Φs,Φt,Φl,Φm,eq_self,hP,h3_0,h3_6,h3_7,h3_8,h3_9]
          · simp (maxSteps := 1000000) only [ΦU,Φy,Φz,ΦI,ev,Φi,Φu,Φn,Φo,Φx,Φw,Φa,Φp,reduceIte,reduceCtorEq,if_true,if_false,Φq,Φk,Φb,Φc,true_and,and_true,false_and,and_false,true_implies,forall_const,false_implies,ne_eq,not_true_eq_false,not_false_eq_true,decide_true,decide_false,Φv,and_self,true_or,or_true,dite_true,dite_false,Φe,Φd,decide_eq_true_eq,decide_eq_false_iff_not,Φf,Φh,Φg,Φj,beq_self_eq_true,Φr,Φs,Φt,Φl,Φm,eq_self,hP,h3_0,h3_6,h3_7,h3_8,h3_9]
          · rfl
          · trivial
      · intro ss T4 L4 hI
        simp only [h3_0, h3_7, h3_8, h3_9] at hI 
        obtain ⟨h4_22, h4_0, h4_7, h4_8, h4_9, hL4, hinv⟩ := hI
        replace hL4 := hL4.symm
        subst hL4
        clear h3_0 h3_6 h3_7 h3_8 h3_9 T3
        refine RX.done ?_
        simp (maxSteps := 1000000) only [ΦU,Φy,Φz,ΦI,ev,Φi,Φu,Φn,Φo,Φx,Φw,Φa,Φp,reduceIte,reduceCtorEq,if_true,if_false,Φq,Φk,Φb,Φc,true_and,and_true,false_and,and_false,true_implies,forall_const,false_implies,ne_eq,not_true_eq_false,not_false_eq_true,decide_true,decide_false,Φv,and_self,true_or,or_true,dite_true,dite_false,Φe,Φd,decide_eq_true_eq,decide_eq_false_iff_not,Φf,Φh,Φg,Φj,beq_self_eq_true,Φr,Φs,Φt,Φl,Φm,eq_self,Ψx,Ψl,Ψm,VCops,VQops,Ψv,putVC,VC,VQ,ΦV,ΦW,ΦN,ΦO,ΦE,ΦF,ΦJ,List.getElem?_cons_zero,List.getElem?_cons_succ,List.getElem?_nil,List.getElem?_toArray,Ψc,Ψi,ΦP,ΦA,ΦB,ΦT,ΦM,ΦX,ΦK,ΦQ,ΦR,ΦY,ΦG,ΦH,ΦZ,ΦC,ΦD,Ψa,ΦL,Ψj,ΦS,Ψb,Ψd,Ψe,Ψg,Ψh,Ψn,exists_eq_left,exists_eq_left',exists_const,Ψs,Ψo,Ψp,hP,h4_22,h4_0,h4_7,h4_8,h4_9]
        refine hK10 _ _ ?_
        try clear hK10 K10
        refine SX.cond_k fun X12 Y12 hX12 hY12 => ?_
        simp (maxSteps := 1000000) only [ΦU,Φy,Φz,ΦI,ev,Φi,Φu,Φn,Φo,Φx,Φw,Φa,Φp,reduceIte,reduceCtorEq,if_true,if_false,Φq,Φk,Φb,Φc,true_and,and_true,false_and,and_false,true_implies,forall_const,false_implies,ne_eq,not_true_eq_false,not_false_eq_true,decide_true,decide_false,Φv,and_self,true_or,or_true,dite_true,dite_false,Φe,Φd,decide_eq_true_eq,decide_eq_false_iff_not,Φf,Φh,Φg,Φj,beq_self_eq_true,Φr,Φs,Φt,Φl,Φm,eq_self,hP,h4_22,h4_0,h4_7,h4_8,h4_9,condVC]
        refine ⟨fun hc22 => hX12 ?_, fun hc22 => hY12 ?_⟩
        · clear hX12 hY12 X12 Y12
          refine SX.seq_k fun K13 hK13 => ?_
          refine SX.region ?_
          simp (maxSteps := 1000000) only [ΦU,Φy,Φz,ΦI,ev,Φi,Φu,Φn,Φo,Φx,Φw,Φa,Φp,reduceIte,reduceCtorEq,if_true,if_false,Φq,Φk,Φb,Φc,true_and,and_true,false_and,and_false,true_implies,forall_const,false_implies,ne_eq,not_true_eq_false,not_false_eq_true,decide_true,decide_false,Φv,and_self,true_or,or_true,dite_true,dite_false,Φe,Φd,decide_eq_true_eq,decide_eq_false_iff_not,Φf,Φh,Φg,Φj,beq_self_eq_true,Φr,Φs,Φt,Φl,Φm,eq_self,Ψx,Ψl,Ψm,VCops,VQops,Ψv,putVC,VC,VQ,ΦV,ΦW,ΦN,ΦO,ΦE,ΦF,ΦJ,List.getElem?_cons_zero,List.getElem?_cons_succ,List.getElem?_nil,List.getElem?_toArray,Ψc,Ψi,ΦP,ΦA,ΦB,ΦT,ΦM,ΦX,ΦK,ΦQ,ΦR,ΦY,ΦG,ΦH,ΦZ,ΦC,ΦD,Ψa,ΦL,Ψj,ΦS,Ψb,Ψd,Ψe,Ψg,Ψh,Ψn,exists_eq_left,exists_eq_left',exists_const,Ψs,Ψo,Ψp,hP,h4_22,h4_0,h4_7,h4_8,h4_9]
          refine hK13 _ _ ?_
          try clear hK13 K13
          refine SX.ret ?_
          simp only [Φi, Φu, Φn, Φo, Φx, Φw, Φa, if_true, if_false, reduceIte, retQ_ret]
          try simp only [res0,res1,res2,res3,ΦU,Φy,Φz,ΦI,ev,Φi,Φu,Φn,Φo,Φx,Φw,Φa,Φp,reduceIte,reduceCtorEq,if_true,if_false,Φq,Φk,Φb,Φc,true_and,and_true,false_and,and_false,true_implies,forall_const,false_implies,ne_eq,not_true_eq_false,not_false_eq_true,decide_true,decide_false,Φv,and_self,true_or,or_true,dite_true,dite_false,Φe,Φd,decide_eq_true_eq,decide_eq_false_iff_not,Φf,Φh,Φg,Φj,beq_self_eq_true,Φr,Φs,Φt,Φl,Φm,eq_self,hP,h4_22,h4_0,h4_7,h4_8,h4_9]
          refine ⟨_, L, (by first | exact Less.refl _ | exact Less.drop _ _ | exact Less.drops (Less.drop _ _) | exact Less.drops (Less.drops (Less.drop _ _)) | exact Less.drops (Less.drops (Less.drops (Less.drop _ _))) | exact Less.drops (Less.drops (Less.drops (Less.drops (Less.drop _ _))))), rfl, ?_, rfl⟩
          rw [show bs.any (inB n) = true from List.any_eq_true.2 ⟨b, List.mem_of_getElem? hb, by rw [inB, decide_eq_true hc22]⟩]
        · clear hX12 hY12 X12 Y12
          refine SX.skip ?_
          simp only [Φi, Φu, Φn, Φo, Φx, Φw, Φa, if_true, if_false, reduceIte]
          refine hK8 _ _ ?_
          try clear hK8 K8
          refine SX.region ?_
          simp (maxSteps := 1000000) only [ΦU,Φy,Φz,ΦI,ev,Φi,Φu,Φn,Φo,Φx,Φw,Φa,Φp,reduceIte,reduceCtorEq,if_true,if_false,Φq,Φk,Φb,Φc,true_and,and_true,false_and,and_false,true_implies,forall_const,false_implies,ne_eq,not_true_eq_false,not_false_eq_true,decide_true,decide_false,Φv,and_self,true_or,or_true,dite_true,dite_false,Φe,Φd,decide_eq_true_eq,decide_eq_false_iff_not,Φf,Φh,Φg,Φj,beq_self_eq_true,Φr,Φs,Φt,Φl,Φm,eq_self,Ψx,Ψl,Ψm,VCops,VQops,Ψv,putVC,VC,VQ,ΦV,ΦW,ΦN,ΦO,ΦE,ΦF,ΦJ,List.getElem?_cons_zero,List.getElem?_cons_succ,List.getElem?_nil,List.getElem?_toArray,Ψc,Ψi,ΦP,ΦA,ΦB,ΦT,ΦM,ΦX,ΦK,ΦQ,ΦR,ΦY,ΦG,ΦH,ΦZ,ΦC,ΦD,Ψa,ΦL,Ψj,ΦS,Ψb,Ψd,Ψe,Ψg,Ψh,Ψn,exists_eq_left,exists_eq_left',exists_const,Ψs,Ψo,Ψp,bin_add,bin_adds,hP,h4_22,h4_0,h4_7,h4_8,h4_9]
          refine hK4 (i + 1) _ (L) _ (by first | exact Less.refl _ | exact Less.drop _ _ | exact Less.drops (Less.drop _ _) | exact Less.drops (Less.drops (Less.drop _ _)) | exact Less.drops (Less.drops (Less.drops (Less.drop _ _))) | exact Less.drops (Less.drops (Less.drops (Less.drops (Less.drop _ _))))) ?_ ?_
          · try dsimp only
            refine ⟨?_, ?_, ?_, ?_, ?_, ?_⟩
            · simp (maxSteps := 1000000) only [ΦU,Φy,Φz,ΦI,ev,Φi,Φu,Φn,Φo,Φx,Φw,Φa,Φp,reduceIte,reduceCtorEq,if_true,if_false,Φq,Φk,Φb,Φc,true_and,and_true,false_and,and_false,true_implies,forall_const,false_implies,ne_eq,not_true_eq_false,not_false_eq_true,decide_true,decide_false,Φv,and_self,true_or,or_true,dite_true,dite_false,Φe,Φd,decide_eq_true_eq,decide_eq_false_iff_not,Φf,Φh,Φg,Φj,beq_self_eq_true,Φr,Φs,Φt,Φl,Φm,eq_self,hP,h4_22,h4_0,h4_7,h4_8,h4_9]
              rw [inc64 (by omega)]
            · simp (maxSteps := 1000000) only [ΦU,Φy,Φz,ΦI,ev,Φi,Φu,Φn,Φo,Φx,Φw,Φa,Φp,reduceIte,reduceCtorEq,if_true,if_false,Φq,Φk,Φb,Φc,true_and,and_true,false_and,and_false,true_implies,forall_const,false_implies,ne_eq,not_true_eq_false,not_false_eq_true,decide_true,decide_false,Φv,and_self,true_or,or_true,dite_true,dite_false,Φe,Φd,decide_eq_true_eq,decide_eq_false_iff_not,Φf,Φh,Φg,Φj,beq_self_eq_true,Φr,Φs,Φt,Φl,Φm,eq_self,hP,h4_22,h4_0,h4_7,h4_8,h4_9]
            · simp (maxSteps := 1000000) only [ΦU,Φy,Φz,ΦI,ev,Φi,Φu,Φn,Φo,Φx,Φw,Φa,Φp,reduceIte,reduceCtorEq,if_true,if_false,Φq,Φk,Φb,Φc,true_and,and_true,false_and,and_false,true_implies,forall_const,false_implies,ne_eq,not_true_eq_false,not_false_eq_true,decide_true,decide_false,Φv,and_self,true_or,or_true,dite_true,dite_false,Φe,Φd,decide_eq_true_eq,decide_eq_false_iff_not,Φf,Φh,Φg,Φj,beq_self_eq_true,Φr,Φs,Φt,Φl,Φm,eq_self,hP,h4_22,h4_0,h4_7,h4_8,h4_9]
            · simp (maxSteps := 1000000) only [ΦU,Φy,Φz,ΦI,ev,Φi,Φu,Φn,Φo,Φx,Φw,Φa,Φp,reduceIte,reduceCtorEq,if_true,if_false,Φq,Φk,Φb,Φc,true_and,and_true,false_and,and_false,true_implies,forall_const,false_implies,ne_eq,not_true_eq_false,not_false_eq_true,decide_true,decide_false,Φv,and_self,true_or,or_true,dite_true,dite_false,Φe,Φd,decide_eq_true_eq,decide_eq_false_iff_not,Φf,Φh,Φg,Φj,beq_self_eq_true,Φr,Φs,Φt,Φl,Φm,eq_self,hP,h4_22,h4_0,h4_7,h4_8,h4_9]
            · rfl
            · refine ⟨by omega, ?_⟩
              rw [take_any hb, hno, inB, decide_eq_false hc22]; rfl
          · (try dsimp only); omega
    · clear hX7 hY7 X7 Y7
      refine SX.exit ?_
      simp only [Φi, Φu, Φn, Φo, Φx, Φw, Φa, if_true, if_false, reduceIte]
      refine hK2 _ _ ?_
      try clear hK2 K2
      refine SX.seq_k fun K14 hK14 => ?_
      refine SX.region ?_
      simp (maxSteps := 1000000) only [ΦU,Φy,Φz,ΦI,ev,Φi,Φu,Φn,Φo,Φx,Φw,Φa,Φp,reduceIte,reduceCtorEq,if_true,if_false,Φq,Φk,Φb,Φc,true_and,and_true,false_and,and_false,true_implies,forall_const,false_implies,ne_eq,not_true_eq_false,not_false_eq_true,decide_true,decide_false,Φv,and_self,true_or,or_true,dite_true,dite_false,Φe,Φd,decide_eq_true_eq,decide_eq_false_iff_not,Φf,Φh,Φg,Φj,beq_self_eq_true,Φr,Φs,Φt,Φl,Φm,eq_self,Ψx,Ψl,Ψm,VCops,VQops,Ψv,putVC,VC,VQ,ΦV,ΦW,ΦN,ΦO,ΦE,ΦF,ΦJ,List.getElem?_cons_zero,List.getElem?_cons_succ,List.getElem?_nil,List.getElem?_toArray,Ψc,Ψi,ΦP,ΦA,ΦB,ΦT,ΦM,ΦX,ΦK,ΦQ,ΦR,ΦY,ΦG,ΦH,ΦZ,ΦC,ΦD,Ψa,ΦL,Ψj,ΦS,Ψb,Ψd,Ψe,Ψg,Ψh,Ψn,exists_eq_left,exists_eq_left',exists_const,Ψs,Ψo,Ψp,hP,h2_9,h2_0,h2_7,h2_8]
      refine hK14 _ _ ?_
      try clear hK14 K14
      refine SX.ret ?_
      simp only [Φi, Φu, Φn, Φo, Φx, Φw, Φa, if_true, if_false, reduceIte, retQ_ret]
      try simp only [res0,res1,res2,res3,ΦU,Φy,Φz,ΦI,ev,Φi,Φu,Φn,Φo,Φx,Φw,Φa,Φp,reduceIte,reduceCtorEq,if_true,if_false,Φq,Φk,Φb,Φc,true_and,and_true,false_and,and_false,true_implies,forall_const,false_implies,ne_eq,not_true_eq_false,not_false_eq_true,decide_true,decide_false,Φv,and_self,true_or,or_true,dite_true,dite_false,Φe,Φd,decide_eq_true_eq,decide_eq_false_iff_not,Φf,Φh,Φg,Φj,beq_self_eq_true,Φr,Φs,Φt,Φl,Φm,eq_self,hP,h2_9,h2_0,h2_7,h2_8]
      refine ⟨_, L, (by first | exact Less.refl _ | exact Less.drop _ _ | exact Less.drops (Less.drop _ _) | exact Less.drops (Less.drops (Less.drop _ _)) | exact Less.drops (Less.drops (Less.drops (Less.drop _ _))) | exact Less.drops (Less.drops (Less.drops (Less.drops (Less.drop _ _))))), rfl, ?_, rfl⟩
      rw [List.take_of_length_le (by omega)] at hno
      rw [hno]

abbrev SH (Γ : Ctx) : Prop := Pairs Γ ⟨0, 0, none⟩ [(80, 207)]
theorem any1 (n a b : Int) : [(a, b)].any (inB n) = decide (a ≤ n ∧ n ≤ b) := by simp [inB]
/-- May a raster be so? -/
def okB (l c g : Int) : Bool := decide (0 ≤ l ∧ l < 262 ∧ 0 ≤ c ∧ c < 14 ∧ 0 ≤ g ∧ g ≤ 8 ∧ (g = 0 ∨ 80 ≤ l ∧ l ≤ 207 ∧ g ≤ c - 2))
def chk (l c g : Int) : Int := if okB l c g = true then 0 else 50
def wB (l c : Int) (o : Bool) (g : Int) : Bool := okB l c g && o && decide (80 ≤ l ∧ l ≤ 207) && decide (2 ≤ c) && decide (g < 8)
def tB (l c : Int) (o : Bool) (g code : Int) (rd : Bool) : Bool := wB l c o g && decide (code = 2) && rd
def onB (o : Bool) (port : Int) (rd wr : Bool) (m : Int) : Bool := if m = 2 ∨ m = 3 then false else if (decide (port = 1) && (rd || wr)) = true then wr else o
abbrev Ras := Int × Int × Bool × Int
abbrev rv (x : Ras) : Value := .agg #[.int .i64 x.1, .int .i64 x.2.1, .bool x.2.2.1, .int .i64 x.2.2.2]
def step (l c : Int) (o : Bool) (g code port : Int) (rd wr : Bool) (m : Int) : Ras :=
  if okB l c g = true ∧ m ≤ 3 then
    if c + 1 = 14 then (if l + 1 = 262 then 0 else l + 1, 0, onB o port rd wr m, 0)
    else (l, c + 1, onB o port rd wr m, if tB l c o g code rd = true then g + 1 else g)
  else (0, 0, false, 0)
theorem chk_eq (l c g : Int) : decide (chk l c g = 0) = okB l c g := by unfold chk; cases okB l c g <;> rfl
theorem chk_zero (l c g : Int) : (chk l c g = 0) = (okB l c g = true) := by unfold chk; cases okB l c g <;> simp
set_option maxHeartbeats 1000000 in
set_option maxRecDepth 100000 in
theorem Check_spec {Γ : Ctx} (hP : Γ.P = Tryd.prog) {L : Hp} {l c g : Int} {o : Bool} (S : SH Γ) :
    SCall Γ 27 #[(.agg #[.int .i64 l, .int .i64 c, .bool o, .int .i64 g])] L (fun v L' => v = .int .i64 (chk l c g) ∧ L' = L) := by
  refine SCall.enter (n := 42) (res1 2) (hP ▸ Tryd.func27) rfl rfl (by simp) (res1_ok rfl) ?_
  refine SX.seq_k fun K1 hK1 => ?_
  refine SX.region ?_
  simp (maxSteps := 1000000) only [ΦU,Φy,Φz,ΦI,ev,Φi,Φu,Φn,Φo,Φx,Φw,Φa,Φp,reduceIte,reduceCtorEq,if_true,if_false,Φq,Φk,Φb,Φc,true_and,and_true,false_and,and_false,true_implies,forall_const,false_implies,ne_eq,not_true_eq_false,not_false_eq_true,decide_true,decide_false,Φv,and_self,true_or,or_true,dite_true,dite_false,Φe,Φd,decide_eq_true_eq,decide_eq_false_iff_not,Φf,Φh,Φg,Φj,beq_self_eq_true,Φr,Φs,Φt,Φl,Φm,eq_self,Ψx,Ψl,Ψm,VCops,VQops,Ψv,putVC,VC,VQ,ΦV,ΦW,ΦN,ΦO,ΦE,ΦF,ΦJ,List.getElem?_cons_zero,List.getElem?_cons_succ,List.getElem?_nil,List.getElem?_toArray,Ψc,Ψi,ΦP,ΦA,ΦB,ΦT,ΦM,ΦX,ΦK,ΦQ,ΦR,ΦY,ΦG,ΦH,ΦZ,ΦC,ΦD,Ψa,ΦL,Ψj,ΦS,Ψb,Ψd,Ψe,Ψg,Ψh,Ψn,exists_eq_left,exists_eq_left',exists_const,Ψs,Ψo,Ψp,cells_int,cells_bool,ΨB,Ψz,ΨD,cells_agg,oneB_nil,oneB_cons,one_int,one_bool,one_string,ΨE,one_slice,one_map,one_func,ΨF,ΨC,one_iface,cells_map,cells_func,ΨA,Ψy,ΨG,T.elA_24,T.lay_24,T.szA_24,T.zr_24,Tryd.underlying24,hP]
  intro bx
  refine hK1 _ _ ?_
  try clear hK1 K1
  refine SX.seq_k fun K2 hK2 => ?_
  refine SX.region ?_
  simp (maxSteps := 1000000) only [ΦU,Φy,Φz,ΦI,ev,Φi,Φu,Φn,Φo,Φx,Φw,Φa,Φp,reduceIte,reduceCtorEq,if_true,if_false,Φq,Φk,Φb,Φc,true_and,and_true,false_and,and_false,true_implies,forall_const,false_implies,ne_eq,not_true_eq_false,not_false_eq_true,decide_true,decide_false,Φv,and_self,true_or,or_true,dite_true,dite_false,Φe,Φd,decide_eq_true_eq,decide_eq_false_iff_not,Φf,Φh,Φg,Φj,beq_self_eq_true,Φr,Φs,Φt,Φl,Φm,eq_self,Ψx,Ψl,Ψm,VCops,VQops,Ψv,putVC,VC,VQ,ΦV,ΦW,ΦN,ΦO,ΦE,ΦF,ΦJ,List.getElem?_cons_zero,List.getElem?_cons_succ,List.getElem?_nil,List.getElem?_toArray,Ψc,Ψi,ΦP,ΦA,ΦB,ΦT,ΦM,ΦX,ΦK,ΦQ,ΦR,ΦY,ΦG,ΦH,ΦZ,ΦC,ΦD,Ψa,ΦL,Ψj,ΦS,Ψb,Ψd,Ψe,Ψg,Ψh,Ψn,exists_eq_left,exists_eq_left',exists_const,Ψs,Ψo,Ψp,hP]
  refine hK2 _ _ ?_
  try clear hK2 K2
  refine SX.live [1, 3] (fun T1 hT1 => ?_)
  simp only [ΨH,forall_mem_nil',ΦU,Φy,Φz,ΦI,ev,Φi,Φu,Φn,Φo,Φx,Φw,Φa,Φp,reduceIte,reduceCtorEq,if_true,if_false,Φq,Φk,Φb,Φc,true_and,and_true,false_and,and_false,true_implies,forall_const,false_implies,ne_eq,not_true_eq_false,not_false_eq_true,decide_true,decide_false,Φv,and_self,true_or,or_true,dite_true,dite_false,Φe,Φd,decide_eq_true_eq,decide_eq_false_iff_not,Φf,Φh,Φg,Φj,beq_self_eq_true,Φr,Φs,Φt,Φl,Φm,eq_self,hP] at hT1
  obtain ⟨h1_1, h1_3⟩ := hT1
  refine SX.join (fun (ss : (Int)) T L' => (fun (k : Int) => T 3 = .int .i64 k ∧ T 1 = T1 1 ∧ L' = some (bx, .cells #[.int .i64 l, .int .i64 c, .bool o, .int .i64 g] 24 (0, 0)) :: L ∧ ((80 ≤ l ∧ l ≤ 207 → k = (if 8 < (if 0 > IntKind.i64.wrap (c - 2) then 0 else IntKind.i64.wrap (c - 2)) then 8 else (if 0 > IntKind.i64.wrap (c - 2) then 0 else IntKind.i64.wrap (c - 2)))) ∧ (¬ (80 ≤ l ∧ l ≤ 207) → k = 0))) (ss)) (fun K3 hK3 => ?_) ?_
  · simp only [h1_1] at hK3
    refine SX.seq_k fun K4 hK4 => ?_
    refine SX.quiet_x (hP ▸ T.mixed) (by kernel_rfl) ?_
    refine QX.live [1, 3] (fun T2 hT2 => ?_)
    simp only [ΨH,forall_mem_nil',ΦU,Φy,Φz,ΦI,ev,Φi,Φu,Φn,Φo,Φx,Φw,Φa,Φp,reduceIte,reduceCtorEq,if_true,if_false,Φq,Φk,Φb,Φc,true_and,and_true,false_and,and_false,true_implies,forall_const,false_implies,ne_eq,not_true_eq_false,not_false_eq_true,decide_true,decide_false,Φv,and_self,true_or,or_true,dite_true,dite_false,Φe,Φd,decide_eq_true_eq,decide_eq_false_iff_not,Φf,Φh,Φg,Φj,beq_self_eq_true,Φr,Φs,Φt,Φl,Φm,eq_self,hP,h1_1,h1_3] at hT2
    obtain ⟨h2_1, h2_3⟩ := hT2
    clear h1_1 h1_3 T1
    refine QX.join 4 (fun (ss : Unit) T L' => T 7 = .bool (decide (80 ≤ l ∧ l ≤ 207)) ∧ T 1 = T2 1 ∧ T 3 = T2 3 ∧ L' = some (bx, .cells #[.int .i64 l, .int .i64 c, .bool o, .int .i64 g] 24 (0, 0)) :: L ∧ (True)) (fun K5 hK5 => ?_) ?_
    · simp only [h2_1, h2_3] at hK5
      simp (maxSteps := 1000000) only [ΦU,Φy,Φz,ΦI,ev,Φi,Φu,Φn,Φo,Φx,Φw,Φa,Φp,reduceIte,reduceCtorEq,if_true,if_false,Φq,Φk,Φb,Φc,true_and,and_true,false_and,and_false,true_implies,forall_const,false_implies,ne_eq,not_true_eq_false,not_false_eq_true,decide_true,decide_false,Φv,and_self,true_or,or_true,dite_true,dite_false,Φe,Φd,decide_eq_true_eq,decide_eq_false_iff_not,Φf,Φh,Φg,Φj,beq_self_eq_true,Φr,Φs,Φt,Φl,Φm,eq_self,Ψx,Ψl,Ψm,VCops,VQops,Ψv,putVC,VC,VQ,ΦV,ΦW,ΦN,ΦO,ΦE,ΦF,ΦJ,List.getElem?_cons_zero,List.getElem?_cons_succ,List.getElem?_nil,List.getElem?_toArray,Ψc,Ψi,ΦP,ΦA,ΦB,ΦT,ΦM,ΦX,ΦK,ΦQ,ΦR,ΦY,ΦG,ΦH,ΦZ,ΦC,ΦD,Ψa,ΦL,Ψj,ΦS,Ψb,Ψd,Ψe,Ψg,Ψh,Ψn,exists_eq_left,exists_eq_left',exists_const,Ψs,Ψo,Ψp,fa_ptr,Ψu,Ψq,Ψw,Ψf,Ψr,Ψt,Ψk,T.elA_24,T.lay_24,T.szA_24,T.zr_24,Tryd.underlying24,ld_ptr,loadVC,loadN,T.szA_3,T.zr_3,Tryd.underlying3,sliceVC,optI,T.elA_90,T.lay_90,T.szA_90,T.zr_90,Tryd.underlying90,qcall_f,call_f,len_slice,len_str,cap_slice,min_int,max_int,T.elS_88,T.szA_88,T.zr_88,Tryd.underlying88,T.callable_47,hP,h2_1,h2_3,any1]
      repeat' (first | refine iteB (fun hg => ?_) (fun hg => ?_) | refine iteI (fun hg => ?_) (fun hg => ?_) | ((first | refine ⟨_, within_spec (bs := [(80, 207)]) (a := ⟨0, 0, none⟩) hP S (by decide), ?_⟩ | refine ⟨by omega, ?_⟩ | refine ⟨_, Cell.at 0 rfl rfl, ?_⟩ | fail); try simp (maxSteps := 1000000) only [ΦU,Φy,Φz,ΦI,ev,Φi,Φu,Φn,Φo,Φx,Φw,Φa,Φp,reduceIte,reduceCtorEq,if_true,if_false,Φq,Φk,Φb,Φc,true_and,and_true,false_and,and_false,true_implies,forall_const,false_implies,ne_eq,not_true_eq_false,not_false_eq_true,decide_true,decide_false,Φv,and_self,true_or,or_true,dite_true,dite_false,Φe,Φd,decide_eq_true_eq,decide_eq_false_iff_not,Φf,Φh,Φg,Φj,beq_self_eq_true,Φr,Φs,Φt,Φl,Φm,eq_self,Ψx,Ψl,Ψm,VCops,VQops,Ψv,putVC,VC,VQ,ΦV,ΦW,ΦN,ΦO,ΦE,ΦF,ΦJ,List.getElem?_cons_zero,List.getElem?_cons_succ,List.getElem?_nil,List.getElem?_toArray,Ψc,Ψi,ΦP,ΦA,ΦB,ΦT,ΦM,ΦX,ΦK,ΦQ,ΦR,ΦY,ΦG,ΦH,ΦZ,ΦC,ΦD,Ψa,ΦL,Ψj,ΦS,Ψb,Ψd,Ψe,Ψg,Ψh,Ψn,exists_eq_left,exists_eq_left',exists_const,Ψs,Ψo,Ψp,fa_ptr,Ψu,Ψq,Ψw,Ψf,Ψr,Ψt,Ψk,T.elA_24,T.lay_24,T.szA_24,T.zr_24,Tryd.underlying24,ld_ptr,loadVC,loadN,T.szA_3,T.zr_3,Tryd.underlying3,sliceVC,optI,T.elA_90,T.lay_90,T.szA_90,T.zr_90,Tryd.underlying90,qcall_f,call_f,len_slice,len_str,cap_slice,min_int,max_int,T.elS_88,T.szA_88,T.zr_88,Tryd.underlying88,T.callable_47,hP,h2_1,h2_3,any1]) | fail)
      all_goals
        refine hK5 () _ (some (bx, .cells #[.int .i64 l, .int .i64 c, .bool o, .int .i64 g] 24 (0, 0)) :: L) _ (by rfl) ?_
        try dsimp only
        refine ⟨?_, ?_, ?_, ?_, ?_⟩
        · simp (maxSteps := 1000000) only [ΦU,Φy,Φz,ΦI,ev,Φi,Φu,Φn,Φo,Φx,Φw,Φa,Φp,reduceIte,reduceCtorEq,if_true,if_false,Φq,Φk,Φb,Φc,true_and,and_true,false_and,and_false,true_implies,forall_const,false_implies,ne_eq,not_true_eq_false,not_false_eq_true,decide_true,decide_false,Φv,and_self,true_or,or_true,dite_true,dite_false,Φe,Φd,decide_eq_true_eq,decide_eq_false_iff_not,Φf,Φh,Φg,Φj,beq_self_eq_true,Φr,Φs,Φt,Φl,Φm,eq_self,hP,h2_1,h2_3]
          first | done | exact congrArg _ (decide_eq_decide.2 (by omega)) | exact congrArg _ (decide_eq_true (by omega)).symm | exact congrArg _ (decide_eq_false (by omega)).symm
        · simp (maxSteps := 1000000) only [ΦU,Φy,Φz,ΦI,ev,Φi,Φu,Φn,Φo,Φx,Φw,Φa,Φp,reduceIte,reduceCtorEq,if_true,if_false,Φq,Φk,Φb,Φc,true_and,and_true,false_and,and_false,true_implies,forall_const,false_implies,ne_eq,not_true_eq_false,not_false_eq_true,decide_true,decide_false,Φv,and_self,true_or,or_true,dite_true,dite_false,Φe,Φd,decide_eq_true_eq,decide_eq_false_iff_not,Φf,Φh,Φg,Φj,beq_self_eq_true,Φr,Φs,Φt,Φl,Φm,eq_self,hP,h2_1,h2_3]
        · simp (maxSteps := 1000000) only [ΦU,Φy,Φz,ΦI,ev,Φi,Φu,Φn,Φo,Φx,Φw,Φa,Φp,reduceIte,reduceCtorEq,if_true,if_false,Φq,Φk,Φb,Φc,true_and,and_true,false_and,and_false,true_implies,forall_const,false_implies,ne_eq,not_true_eq_false,not_false_eq_true,decide_true,decide_false,Φv,and_self,true_or,or_true,dite_true,dite_false,Φe,Φd,decide_eq_true_eq,decide_eq_false_iff_not,Φf,Φh,Φg,Φj,beq_self_eq_true,Φr,Φs,Φt,Φl,Φm,eq_self,hP,h2_1,h2_3]
        · rfl
        · trivial
    · intro ss T3 L3 hE3 hI
      simp only [h2_1, h2_3] at hI 
      obtain ⟨h3_7, h3_1, h3_3, hL3, hinv⟩ := hI
      replace hL3 := hL3.symm
      subst hL3
      clear h2_1 h2_3 T2
      clear hE3
      refine QX.done ?_
      simp (maxSteps := 1000000) only [ΦU,Φy,Φz,ΦI,ev,Φi,Φu,Φn,Φo,Φx,Φw,Φa,Φp,reduceIte,reduceCtorEq,if_true,if_false,Φq,Φk,Φb,Φc,true_and,and_true,false_and,and_false,true_implies,forall_const,false_implies,ne_eq,not_true_eq_false,not_false_eq_true,decide_true,decide_false,Φv,and_self,true_or,or_true,dite_true,dite_false,Φe,Φd,decide_eq_true_eq,decide_eq_false_iff_not,Φf,Φh,Φg,Φj,beq_self_eq_true,Φr,Φs,Φt,Φl,Φm,eq_self,Ψx,Ψl,Ψm,VCops,VQops,Ψv,putVC,VC,VQ,ΦV,ΦW,ΦN,ΦO,ΦE,ΦF,ΦJ,List.getElem?_cons_zero,List.getElem?_cons_succ,List.getElem?_nil,List.getElem?_toArray,Ψc,Ψi,ΦP,ΦA,ΦB,ΦT,ΦM,ΦX,ΦK,ΦQ,ΦR,ΦY,ΦG,ΦH,ΦZ,ΦC,ΦD,Ψa,ΦL,Ψj,ΦS,Ψb,Ψd,Ψe,Ψg,Ψh,Ψn,exists_eq_left,exists_eq_left',exists_const,Ψs,Ψo,Ψp,hP,h3_7,h3_1,h3_3]
      refine hK4 _ _ ?_
      try clear hK4 K4
      refine SX.cond_k fun X6 Y6 hX6 hY6 => ?_
      simp (maxSteps := 1000000) only [ΦU,Φy,Φz,ΦI,ev,Φi,Φu,Φn,Φo,Φx,Φw,Φa,Φp,reduceIte,reduceCtorEq,if_true,if_false,Φq,Φk,Φb,Φc,true_and,and_true,false_and,and_false,true_implies,forall_const,false_implies,ne_eq,not_true_eq_false,not_false_eq_true,decide_true,decide_false,Φv,and_self,true_or,or_true,dite_true,dite_false,Φe,Φd,decide_eq_true_eq,decide_eq_false_iff_not,Φf,Φh,Φg,Φj,beq_self_eq_true,Φr,Φs,Φt,Φl,Φm,eq_self,hP,h3_7,h3_1,h3_3,condVC]
      refine ⟨fun hc7 => hX6 ?_, fun hc7 => hY6 ?_⟩
      · clear hX6 hY6 X6 Y6
        refine SX.region_x ?_
        refine RX.live [1] (fun T4 hT4 => ?_)
        simp only [ΨH,forall_mem_nil',ΦU,Φy,Φz,ΦI,ev,Φi,Φu,Φn,Φo,Φx,Φw,Φa,Φp,reduceIte,reduceCtorEq,if_true,if_false,Φq,Φk,Φb,Φc,true_and,and_true,false_and,and_false,true_implies,forall_const,false_implies,ne_eq,not_true_eq_false,not_false_eq_true,decide_true,decide_false,Φv,and_self,true_or,or_true,dite_true,dite_false,Φe,Φd,decide_eq_true_eq,decide_eq_false_iff_not,Φf,Φh,Φg,Φj,beq_self_eq_true,Φr,Φs,Φt,Φl,Φm,eq_self,hP,h3_7,h3_1,h3_3] at hT4
        have h4_1 := hT4; clear hT4
        clear h3_7 h3_1 h3_3 T3
        refine RX.join 6 (fun (ss : Unit) T L' => T 3 = .int .i64 (if 8 < (if 0 > IntKind.i64.wrap (c - 2) then 0 else IntKind.i64.wrap (c - 2)) then 8 else (if 0 > IntKind.i64.wrap (c - 2) then 0 else IntKind.i64.wrap (c - 2))) ∧ T 1 = T4 1 ∧ L' = some (bx, .cells #[.int .i64 l, .int .i64 c, .bool o, .int .i64 g] 24 (0, 0)) :: L ∧ (True)) (fun K7 hK7 => ?_) ?_
        · simp only [h4_1] at hK7
          simp (maxSteps := 1000000) only [ΦU,Φy,Φz,ΦI,ev,Φi,Φu,Φn,Φo,Φx,Φw,Φa,Φp,reduceIte,reduceCtorEq,if_true,if_false,Φq,Φk,Φb,Φc,true_and,and_true,false_and,and_false,true_implies,forall_const,false_implies,ne_eq,not_true_eq_false,not_false_eq_true,decide_true,decide_false,Φv,and_self,true_or,or_true,dite_true,dite_false,Φe,Φd,decide_eq_true_eq,decide_eq_false_iff_not,Φf,Φh,Φg,Φj,beq_self_eq_true,Φr,Φs,Φt,Φl,Φm,eq_self,Ψx,Ψl,Ψm,VCops,VQops,Ψv,putVC,VC,VQ,ΦV,ΦW,ΦN,ΦO,ΦE,ΦF,ΦJ,List.getElem?_cons_zero,List.getElem?_cons_succ,List.getElem?_nil,List.getElem?_toArray,Ψc,Ψi,ΦP,ΦA,ΦB,ΦT,ΦM,ΦX,ΦK,ΦQ,ΦR,ΦY,ΦG,ΦH,ΦZ,ΦC,ΦD,Ψa,ΦL,Ψj,ΦS,Ψb,Ψd,Ψe,Ψg,Ψh,Ψn,exists_eq_left,exists_eq_left',exists_const,Ψs,Ψo,Ψp,fa_ptr,Ψu,Ψq,Ψw,Ψf,Ψr,Ψt,Ψk,T.elA_24,T.lay_24,T.szA_24,T.zr_24,Tryd.underlying24,ld_ptr,loadVC,loadN,T.szA_3,T.zr_3,Tryd.underlying3,bin_sub,qcall_f,call_f,len_slice,len_str,cap_slice,min_int,max_int,hP,h4_1]
          repeat' (first | refine iteB (fun hg => ?_) (fun hg => ?_) | refine iteI (fun hg => ?_) (fun hg => ?_) | ((first | refine ⟨by omega, ?_⟩ | refine ⟨_, Cell.at 0 rfl rfl, ?_⟩ | fail); try simp (maxSteps := 1000000) only [ΦU,Φy,Φz,ΦI,ev,Φi,Φu,Φn,Φo,Φx,Φw,Φa,Φp,reduceIte,reduceCtorEq,if_true,if_false,Φq,Φk,Φb,Φc,true_and,and_true,false_and,and_false,true_implies,forall_const,false_implies,ne_eq,not_true_eq_false,not_false_eq_true,decide_true,decide_false,Φv,and_self,true_or,or_true,dite_true,dite_false,Φe,Φd,decide_eq_true_eq,decide_eq_false_iff_not,Φf,Φh,Φg,Φj,beq_self_eq_true,Φr,Φs,Φt,Φl,Φm,eq_self,Ψx,Ψl,Ψm,VCops,VQops,Ψv,putVC,VC,VQ,ΦV,ΦW,ΦN,ΦO,ΦE,ΦF,ΦJ,List.getElem?_cons_zero,List.getElem?_cons_succ,List.getElem?_nil,List.getElem?_toArray,Ψc,Ψi,ΦP,ΦA,ΦB,ΦT,ΦM,ΦX,ΦK,ΦQ,ΦR,ΦY,ΦG,ΦH,ΦZ,ΦC,ΦD,Ψa,ΦL,Ψj,ΦS,Ψb,Ψd,Ψe,Ψg,Ψh,Ψn,exists_eq_left,exists_eq_left',exists_const,Ψs,Ψo,Ψp,fa_ptr,Ψu,Ψq,Ψw,Ψf,Ψr,Ψt,Ψk,T.elA_24,T.lay_24,T.szA_24,T.zr_24,Tryd.underlying24,ld_ptr,loadVC,loadN,T.szA_3,T.zr_3,Tryd.underlying3,bin_sub,qcall_f,call_f,len_slice,len_str,cap_slice,min_int,max_int,hP,h4_1]) | fail)
          all_goals
            refine hK7 () _ (some (bx, .cells #[.int .i64 l, .int .i64 c, .bool o, .int .i64 g] 24 (0, 0)) :: L) _ (by first | exact Less.refl _ | exact Less.drop _ _ | exact Less.drops (Less.drop _ _) | exact Less.drops (Less.drops (Less.drop _ _)) | exact Less.drops (Less.drops (Less.drops (Less.drop _ _))) | exact Less.drops (Less.drops (Less.drops (Less.drops (Less.drop _ _))))) ?_
            try dsimp only
            refine ⟨?_, ?_, ?_, ?_⟩
            · simp (maxSteps := 1000000) only [ΦU,Φy,Φz,ΦI,ev,Φi,Φu,Φn,Φo,Φx,Φw,Φa,Φp,reduceIte,reduceCtorEq,if_true,if_false,Φq,Φk,Φb,Φc,true_and,and_true,false_and,and_false,true_implies,forall_const,false_implies,ne_eq,not_true_eq_false,not_false_eq_true,decide_true,decide_false,Φv,and_self,true_or,or_true,dite_true,dite_false,Φe,Φd,decide_eq_true_eq,decide_eq_false_iff_not,Φf,Φh,Φg,Φj,beq_self_eq_true,Φr,Φs,Φt,Φl,Φm,eq_self,hP,h4_1]
              first | done | rfl
            · simp (maxSteps := 1000000) only [ΦU,Φy,Φz,ΦI,ev,Φi,Φu,Φn,Φo,Φx,Φw,Φa,Φp,reduceIte,reduceCtorEq,if_true,if_false,Φq,Φk,Φb,Φc,true_and,and_true,false_and,and_false,true_implies,forall_const,false_implies,ne_eq,not_true_eq_false,not_false_eq_true,decide_true,decide_false,Φv,and_self,true_or,or_true,dite_true,dite_false,Φe,Φd,decide_eq_true_eq,decide_eq_false_iff_not,Φf,Φh,Φg,Φj,beq_self_eq_true,Φr,Φs,Φt,Φl,Φm,eq_self,hP,h4_1]
            · rfl
            · trivial
        · intro ss T5 L5 hI
          simp only [h4_1] at hI 
          obtain ⟨h5_3, h5_1, hL5, hinv⟩ := hI
          replace hL5 := hL5.symm
          subst hL5
          clear h4_1 T4
          refine RX.done ?_
          simp (maxSteps := 1000000) only [ΦU,Φy,Φz,ΦI,ev,Φi,Φu,Φn,Φo,Φx,Φw,Φa,Φp,reduceIte,reduceCtorEq,if_true,if_false,Φq,Φk,Φb,Φc,true_and,and_true,false_and,and_false,true_implies,forall_const,false_implies,ne_eq,not_true_eq_false,not_false_eq_true,decide_true,decide_false,Φv,and_self,true_or,or_true,dite_true,dite_false,Φe,Φd,decide_eq_true_eq,decide_eq_false_iff_not,Φf,Φh,Φg,Φj,beq_self_eq_true,Φr,Φs,Φt,Φl,Φm,eq_self,Ψx,Ψl,Ψm,VCops,VQops,Ψv,putVC,VC,VQ,ΦV,ΦW,ΦN,ΦO,ΦE,ΦF,ΦJ,List.getElem?_cons_zero,List.getElem?_cons_succ,List.getElem?_nil,List.getElem?_toArray,Ψc,Ψi,ΦP,ΦA,ΦB,ΦT,ΦM,ΦX,ΦK,ΦQ,ΦR,ΦY,ΦG,ΦH,ΦZ,ΦC,ΦD,Ψa,ΦL,Ψj,ΦS,Ψb,Ψd,Ψe,Ψg,Ψh,Ψn,exists_eq_left,exists_eq_left',exists_const,Ψs,Ψo,Ψp,hP,h5_3,h5_1]
          refine hK3 (if 8 < (if 0 > IntKind.i64.wrap (c - 2) then 0 else IntKind.i64.wrap (c - 2)) then 8 else (if 0 > IntKind.i64.wrap (c - 2) then 0 else IntKind.i64.wrap (c - 2))) _ (some (bx, .cells #[.int .i64 l, .int .i64 c, .bool o, .int .i64 g] 24 (0, 0)) :: L) _ (by first | exact Less.refl _ | exact Less.drop _ _ | exact Less.drops (Less.drop _ _) | exact Less.drops (Less.drops (Less.drop _ _)) | exact Less.drops (Less.drops (Less.drops (Less.drop _ _))) | exact Less.drops (Less.drops (Less.drops (Less.drops (Less.drop _ _))))) ?_
          try dsimp only
          refine ⟨?_, ?_, ?_, ?_⟩
          · simp (maxSteps := 1000000) only [ΦU,Φy,Φz,ΦI,ev,Φi,Φu,Φn,Φo,Φx,Φw,Φa,Φp,reduceIte,reduceCtorEq,if_true,if_false,Φq,Φk,Φb,Φc,true_and,and_true,false_and,and_false,true_implies,forall_const,false_implies,ne_eq,not_true_eq_false,not_false_eq_true,decide_true,decide_false,Φv,and_self,true_or,or_true,dite_true,dite_false,Φe,Φd,decide_eq_true_eq,decide_eq_false_iff_not,Φf,Φh,Φg,Φj,beq_self_eq_true,Φr,Φs,Φt,Φl,Φm,eq_self,hP,h5_3,h5_1]
            first | done | rfl | skip
          · simp (maxSteps := 1000000) only [ΦU,Φy,Φz,ΦI,ev,Φi,Φu,Φn,Φo,Φx,Φw,Φa,Φp,reduceIte,reduceCtorEq,if_true,if_false,Φq,Φk,Φb,Φc,true_and,and_true,false_and,and_false,true_implies,forall_const,false_implies,ne_eq,not_true_eq_false,not_false_eq_true,decide_true,decide_false,Φv,and_self,true_or,or_true,dite_true,dite_false,Φe,Φd,decide_eq_true_eq,decide_eq_false_iff_not,Φf,Φh,Φg,Φj,beq_self_eq_true,Φr,Φs,Φt,Φl,Φm,eq_self,hP,h5_3,h5_1]
          · rfl
          · exact ⟨fun _ => rfl, fun h => absurd hc7 h⟩
      · clear hX6 hY6 X6 Y6
        refine SX.skip ?_
        simp only [Φi, Φu, Φn, Φo, Φx, Φw, Φa, if_true, if_false, reduceIte]
        refine hK3 0 _ (some (bx, .cells #[.int .i64 l, .int .i64 c, .bool o, .int .i64 g] 24 (0, 0)) :: L) _ (by first | exact Less.refl _ | exact Less.drop _ _ | exact Less.drops (Less.drop _ _) | exact Less.drops (Less.drops (Less.drop _ _)) | exact Less.drops (Less.drops (Less.drops (Less.drop _ _))) | exact Less.drops (Less.drops (Less.drops (Less.drops (Less.drop _ _))))) ?_
        try dsimp only
        refine ⟨?_, ?_, ?_, ?_⟩
        · simp (maxSteps := 1000000) only [ΦU,Φy,Φz,ΦI,ev,Φi,Φu,Φn,Φo,Φx,Φw,Φa,Φp,reduceIte,reduceCtorEq,if_true,if_false,Φq,Φk,Φb,Φc,true_and,and_true,false_and,and_false,true_implies,forall_const,false_implies,ne_eq,not_true_eq_false,not_false_eq_true,decide_true,decide_false,Φv,and_self,true_or,or_true,dite_true,dite_false,Φe,Φd,decide_eq_true_eq,decide_eq_false_iff_not,Φf,Φh,Φg,Φj,beq_self_eq_true,Φr,Φs,Φt,Φl,Φm,eq_self,hP,h3_7,h3_1,h3_3]
          first | done | rfl | skip
        · simp (maxSteps := 1000000) only [ΦU,Φy,Φz,ΦI,ev,Φi,Φu,Φn,Φo,Φx,Φw,Φa,Φp,reduceIte,reduceCtorEq,if_true,if_false,Φq,Φk,Φb,Φc,true_and,and_true,false_and,and_false,true_implies,forall_const,false_implies,ne_eq,not_true_eq_false,not_false_eq_true,decide_true,decide_false,Φv,and_self,true_or,or_true,dite_true,dite_false,Φe,Φd,decide_eq_true_eq,decide_eq_false_iff_not,Φf,Φh,Φg,Φj,beq_self_eq_true,Φr,Φs,Φt,Φl,Φm,eq_self,hP,h3_7,h3_1,h3_3]
        · rfl
        · exact ⟨fun h => absurd h hc7, fun _ => rfl⟩
  · intro k T6 L6 hI
    try dsimp only at hI 
    simp only [h1_1] at hI 
    obtain ⟨h6_3, h6_1, hL6, ⟨hk1, hk2⟩⟩ := hI
    replace hL6 := hL6.symm
    subst hL6
    clear h1_1 h1_3 T1
    refine SX.seq_k fun K8 hK8 => ?_
    refine SX.seq_k fun K9 hK9 => ?_
    refine SX.region_x ?_
    refine RX.live [1, 3] (fun T7 hT7 => ?_)
    simp only [ΨH,forall_mem_nil',ΦU,Φy,Φz,ΦI,ev,Φi,Φu,Φn,Φo,Φx,Φw,Φa,Φp,reduceIte,reduceCtorEq,if_true,if_false,Φq,Φk,Φb,Φc,true_and,and_true,false_and,and_false,true_implies,forall_const,false_implies,ne_eq,not_true_eq_false,not_false_eq_true,decide_true,decide_false,Φv,and_self,true_or,or_true,dite_true,dite_false,Φe,Φd,decide_eq_true_eq,decide_eq_false_iff_not,Φf,Φh,Φg,Φj,beq_self_eq_true,Φr,Φs,Φt,Φl,Φm,eq_self,hP,h6_3,h6_1] at hT7
    obtain ⟨h7_1, h7_3⟩ := hT7
    clear h6_3 h6_1 T6
    have hw : (0 ≤ c ∧ c < 14) → IntKind.i64.wrap (c - 2) = c - 2 := fun h => w64 (by omega)
    refine RX.join 8 (fun (ss : Unit) T L' => T 20 = .bool (decide (l < 0 ∨ 262 ≤ l)) ∧ T 1 = T7 1 ∧ T 3 = T7 3 ∧ L' = some (bx, .cells #[.int .i64 l, .int .i64 c, .bool o, .int .i64 g] 24 (0, 0)) :: L ∧ (True)) (fun K10 hK10 => ?_) ?_
    · simp only [h7_1, h7_3] at hK10
      simp (maxSteps := 1000000) only [ΦU,Φy,Φz,ΦI,ev,Φi,Φu,Φn,Φo,Φx,Φw,Φa,Φp,reduceIte,reduceCtorEq,if_true,if_false,Φq,Φk,Φb,Φc,true_and,and_true,false_and,and_false,true_implies,forall_const,false_implies,ne_eq,not_true_eq_false,not_false_eq_true,decide_true,decide_false,Φv,and_self,true_or,or_true,dite_true,dite_false,Φe,Φd,decide_eq_true_eq,decide_eq_false_iff_not,Φf,Φh,Φg,Φj,beq_self_eq_true,Φr,Φs,Φt,Φl,Φm,eq_self,Ψx,Ψl,Ψm,VCops,VQops,Ψv,putVC,VC,VQ,ΦV,ΦW,ΦN,ΦO,ΦE,ΦF,ΦJ,List.getElem?_cons_zero,List.getElem?_cons_succ,List.getElem?_nil,List.getElem?_toArray,Ψc,Ψi,ΦP,ΦA,ΦB,ΦT,ΦM,ΦX,ΦK,ΦQ,ΦR,ΦY,ΦG,ΦH,ΦZ,ΦC,ΦD,Ψa,ΦL,Ψj,ΦS,Ψb,Ψd,Ψe,Ψg,Ψh,Ψn,exists_eq_left,exists_eq_left',exists_const,Ψs,Ψo,Ψp,fa_ptr,Ψu,Ψq,Ψw,Ψf,Ψr,Ψt,Ψk,T.elA_24,T.lay_24,T.szA_24,T.zr_24,Tryd.underlying24,ld_ptr,loadVC,loadN,T.szA_3,T.zr_3,Tryd.underlying3,bin_lss,bin_geq,pick_bool,hP,h7_1,h7_3]
      repeat' (first | refine iteB (fun hg => ?_) (fun hg => ?_) | refine iteI (fun hg => ?_) (fun hg => ?_) | ((first | refine ⟨by omega, ?_⟩ | refine ⟨_, Cell.at 0 rfl rfl, ?_⟩ | fail); try simp (maxSteps := 1000000) only [ΦU,Φy,Φz,ΦI,ev,Φi,Φu,Φn,Φo,Φx,Φw,Φa,Φp,reduceIte,reduceCtorEq,if_true,if_false,Φq,Φk,Φb,Φc,true_and,and_true,false_and,and_false,true_implies,forall_const,false_implies,ne_eq,not_true_eq_false,not_false_eq_true,decide_true,decide_false,Φv,and_self,true_or,or_true,dite_true,dite_false,Φe,Φd,decide_eq_true_eq,decide_eq_false_iff_not,Φf,Φh,Φg,Φj,beq_self_eq_true,Φr,Φs,Φt,Φl,Φm,eq_self,Ψx,Ψl,Ψm,VCops,VQops,Ψv,putVC,VC,VQ,ΦV,ΦW,ΦN,ΦO,ΦE,ΦF,ΦJ,List.getElem?_cons_zero,List.getElem?_cons_succ,List.getElem?_nil,List.getElem?_toArray,Ψc,Ψi,ΦP,ΦA,ΦB,ΦT,ΦM,ΦX,ΦK,ΦQ,ΦR,ΦY,ΦG,ΦH,ΦZ,ΦC,ΦD,Ψa,ΦL,Ψj,ΦS,Ψb,Ψd,Ψe,Ψg,Ψh,Ψn,exists_eq_left,exists_eq_left',exists_const,Ψs,Ψo,Ψp,fa_ptr,Ψu,Ψq,Ψw,Ψf,Ψr,Ψt,Ψk,T.elA_24,T.lay_24,T.szA_24,T.zr_24,Tryd.underlying24,ld_ptr,loadVC,loadN,T.szA_3,T.zr_3,Tryd.underlying3,bin_lss,bin_geq,pick_bool,hP,h7_1,h7_3]) | fail)
      all_goals
        refine hK10 () _ (some (bx, .cells #[.int .i64 l, .int .i64 c, .bool o, .int .i64 g] 24 (0, 0)) :: L) _ (by first | exact Less.refl _ | exact Less.drop _ _ | exact Less.drops (Less.drop _ _) | exact Less.drops (Less.drops (Less.drop _ _)) | exact Less.drops (Less.drops (Less.drops (Less.drop _ _))) | exact Less.drops (Less.drops (Less.drops (Less.drops (Less.drop _ _))))) ?_
        try dsimp only
        refine ⟨?_, ?_, ?_, ?_, ?_⟩
        · simp (maxSteps := 1000000) only [ΦU,Φy,Φz,ΦI,ev,Φi,Φu,Φn,Φo,Φx,Φw,Φa,Φp,reduceIte,reduceCtorEq,if_true,if_false,Φq,Φk,Φb,Φc,true_and,and_true,false_and,and_false,true_implies,forall_const,false_implies,ne_eq,not_true_eq_false,not_false_eq_true,decide_true,decide_false,Φv,and_self,true_or,or_true,dite_true,dite_false,Φe,Φd,decide_eq_true_eq,decide_eq_false_iff_not,Φf,Φh,Φg,Φj,beq_self_eq_true,Φr,Φs,Φt,Φl,Φm,eq_self,hP,h7_1,h7_3]
          first | done | exact congrArg _ (decide_eq_decide.2 (by omega)) | exact congrArg _ (decide_eq_true (by omega)).symm | exact congrArg _ (decide_eq_false (by omega)).symm
        · simp (maxSteps := 1000000) only [ΦU,Φy,Φz,ΦI,ev,Φi,Φu,Φn,Φo,Φx,Φw,Φa,Φp,reduceIte,reduceCtorEq,if_true,if_false,Φq,Φk,Φb,Φc,true_and,and_true,false_and,and_false,true_implies,forall_const,false_implies,ne_eq,not_true_eq_false,not_false_eq_true,decide_true,decide_false,Φv,and_self,true_or,or_true,dite_true,dite_false,Φe,Φd,decide_eq_true_eq,decide_eq_false_iff_not,Φf,Φh,Φg,Φj,beq_self_eq_true,Φr,Φs,Φt,Φl,Φm,eq_self,hP,h7_1,h7_3]
        · simp (maxSteps := 1000000) only [ΦU,Φy,Φz,ΦI,ev,Φi,Φu,Φn,Φo,Φx,Φw,Φa,Φp,reduceIte,reduceCtorEq,if_true,if_false,Φq,Φk,Φb,Φc,true_and,and_true,false_and,and_false,true_implies,forall_const,false_implies,ne_eq,not_true_eq_false,not_false_eq_true,decide_true,decide_false,Φv,and_self,true_or,or_true,dite_true,dite_false,Φe,Φd,decide_eq_true_eq,decide_eq_false_iff_not,Φf,Φh,Φg,Φj,beq_self_eq_true,Φr,Φs,Φt,Φl,Φm,eq_self,hP,h7_1,h7_3]
        · rfl
        · trivial
    · intro ss T8 L8 hI
      simp only [h7_1, h7_3] at hI 
      obtain ⟨h8_20, h8_1, h8_3, hL8, hinv⟩ := hI
      replace hL8 := hL8.symm
      subst hL8
      clear h7_1 h7_3 T7
      refine RX.live [1, 3, 20] (fun T9 hT9 => ?_)
      simp only [ΨH,forall_mem_nil',ΦU,Φy,Φz,ΦI,ev,Φi,Φu,Φn,Φo,Φx,Φw,Φa,Φp,reduceIte,reduceCtorEq,if_true,if_false,Φq,Φk,Φb,Φc,true_and,and_true,false_and,and_false,true_implies,forall_const,false_implies,ne_eq,not_true_eq_false,not_false_eq_true,decide_true,decide_false,Φv,and_self,true_or,or_true,dite_true,dite_false,Φe,Φd,decide_eq_true_eq,decide_eq_false_iff_not,Φf,Φh,Φg,Φj,beq_self_eq_true,Φr,Φs,Φt,Φl,Φm,eq_self,hP,h8_20,h8_1,h8_3] at hT9
      obtain ⟨h9_1, h9_3, h9_20⟩ := hT9
      clear h8_20 h8_1 h8_3 T8
      refine RX.join 5 (fun (ss : Unit) T L' => T 25 = .bool (decide (l < 0 ∨ 262 ≤ l ∨ c < 0)) ∧ T 1 = T9 1 ∧ T 3 = T9 3 ∧ L' = some (bx, .cells #[.int .i64 l, .int .i64 c, .bool o, .int .i64 g] 24 (0, 0)) :: L ∧ (True)) (fun K11 hK11 => ?_) ?_
      · simp only [h9_1, h9_3] at hK11
        simp (maxSteps := 1000000) only [ΦU,Φy,Φz,ΦI,ev,Φi,Φu,Φn,Φo,Φx,Φw,Φa,Φp,reduceIte,reduceCtorEq,if_true,if_false,Φq,Φk,Φb,Φc,true_and,and_true,false_and,and_false,true_implies,forall_const,false_implies,ne_eq,not_true_eq_false,not_false_eq_true,decide_true,decide_false,Φv,and_self,true_or,or_true,dite_true,dite_false,Φe,Φd,decide_eq_true_eq,decide_eq_false_iff_not,Φf,Φh,Φg,Φj,beq_self_eq_true,Φr,Φs,Φt,Φl,Φm,eq_self,Ψx,Ψl,Ψm,VCops,VQops,Ψv,putVC,VC,VQ,ΦV,ΦW,ΦN,ΦO,ΦE,ΦF,ΦJ,List.getElem?_cons_zero,List.getElem?_cons_succ,List.getElem?_nil,List.getElem?_toArray,Ψc,Ψi,ΦP,ΦA,ΦB,ΦT,ΦM,ΦX,ΦK,ΦQ,ΦR,ΦY,ΦG,ΦH,ΦZ,ΦC,ΦD,Ψa,ΦL,Ψj,ΦS,Ψb,Ψd,Ψe,Ψg,Ψh,Ψn,exists_eq_left,exists_eq_left',exists_const,Ψs,Ψo,Ψp,fa_ptr,Ψu,Ψq,Ψw,Ψf,Ψr,Ψt,Ψk,T.elA_24,T.lay_24,T.szA_24,T.zr_24,Tryd.underlying24,ld_ptr,loadVC,loadN,T.szA_3,T.zr_3,Tryd.underlying3,bin_lss,pick_bool,hP,h9_1,h9_3,h9_20]
        repeat' (first | refine iteB (fun hg => ?_) (fun hg => ?_) | refine iteI (fun hg => ?_) (fun hg => ?_) | ((first | refine ⟨by omega, ?_⟩ | refine ⟨_, Cell.at 0 rfl rfl, ?_⟩ | fail); try simp (maxSteps := 1000000) only [ΦU,Φy,Φz,ΦI,ev,Φi,Φu,Φn,Φo,Φx,Φw,Φa,Φp,reduceIte,reduceCtorEq,if_true,if_false,Φq,Φk,Φb,Φc,true_and,and_true,false_and,and_false,true_implies,forall_const,false_implies,ne_eq,not_true_eq_false,not_false_eq_true,decide_true,decide_false,Φv,and_self,true_or,or_true,dite_true,dite_false,Φe,Φd,decide_eq_true_eq,decide_eq_false_iff_not,Φf,Φh,Φg,Φj,beq_self_eq_true,Φr,Φs,Φt,Φl,Φm,eq_self,Ψx,Ψl,Ψm,VCops,VQops,Ψv,putVC,VC,VQ,ΦV,ΦW,ΦN,ΦO,ΦE,ΦF,ΦJ,List.getElem?_cons_zero,List.getElem?_cons_succ,List.getElem?_nil,List.getElem?_toArray,Ψc,Ψi,ΦP,ΦA,ΦB,ΦT,ΦM,ΦX,ΦK,ΦQ,ΦR,ΦY,ΦG,ΦH,ΦZ,ΦC,ΦD,Ψa,ΦL,Ψj,ΦS,Ψb,Ψd,Ψe,Ψg,Ψh,Ψn,exists_eq_left,exists_eq_left',exists_const,Ψs,Ψo,Ψp,fa_ptr,Ψu,Ψq,Ψw,Ψf,Ψr,Ψt,Ψk,T.elA_24,T.lay_24,T.szA_24,T.zr_24,Tryd.underlying24,ld_ptr,loadVC,loadN,T.szA_3,T.zr_3,Tryd.underlying3,bin_lss,pick_bool,hP,h9_1,h9_3,h9_20]) | fail)
        all_goals
          refine hK11 () _ (some (bx, .cells #[.int .i64 l, .int .i64 c, .bool o, .int .i64 g] 24 (0, 0)) :: L) _ (by first | exact Less.refl _ | exact Less.drop _ _ | exact Less.drops (Less.drop _ _) | exact Less.drops (Less.drops (Less.drop _ _)) | exact Less.drops (Less.drops (Less.drops (Less.drop _ _))) | exact Less.drops (Less.drops (Less.drops (Less.drops (Less.drop _ _))))) ?_
          try dsimp only
          refine ⟨?_, ?_, ?_, ?_, ?_⟩
          · simp (maxSteps := 1000000) only [ΦU,Φy,Φz,ΦI,ev,Φi,Φu,Φn,Φo,Φx,Φw,Φa,Φp,reduceIte,reduceCtorEq,if_true,if_false,Φq,Φk,Φb,Φc,true_and,and_true,false_and,and_false,true_implies,forall_const,false_implies,ne_eq,not_true_eq_false,not_false_eq_true,decide_true,decide_false,Φv,and_self,true_or,or_true,dite_true,dite_false,Φe,Φd,decide_eq_true_eq,decide_eq_false_iff_not,Φf,Φh,Φg,Φj,beq_self_eq_true,Φr,Φs,Φt,Φl,Φm,eq_self,hP,h9_1,h9_3,h9_20]
            first | done | exact congrArg _ (decide_eq_decide.2 (by omega)) | exact congrArg _ (decide_eq_true (by omega)).symm | exact congrArg _ (decide_eq_false (by omega)).symm
          · simp (maxSteps := 1000000) only [ΦU,Φy,Φz,ΦI,ev,Φi,Φu,Φn,Φo,Φx,Φw,Φa,Φp,reduceIte,reduceCtorEq,if_true,if_false,Φq,Φk,Φb,Φc,true_and,and_true,false_and,and_false,true_implies,forall_const,false_implies,ne_eq,not_true_eq_false,not_false_eq_true,decide_true,decide_false,Φv,and_self,true_or,or_true,dite_true,dite_false,Φe,Φd,decide_eq_true_eq,decide_eq_false_iff_not,Φf,Φh,Φg,Φj,beq_self_eq_true,Φr,Φs,Φt,Φl,Φm,eq_self,hP,h9_1,h9_3,h9_20]
          · simp (maxSteps := 1000000) only [ΦU,Φy,Φz,ΦI,ev,Φi,Φu,Φn,Φo,Φx,Φw,Φa,Φp,reduceIte,reduceCtorEq,if_true,if_false,Φq,Φk,Φb,Φc,true_and,and_true,false_and,and_false,true_implies,forall_const,false_implies,ne_eq,not_true_eq_false,not_false_eq_true,decide_true,decide_false,Φv,and_self,true_or,or_true,dite_true,dite_false,Φe,Φd,decide_eq_true_eq,decide_eq_false_iff_not,Φf,Φh,Φg,Φj,beq_self_eq_true,Φr,Φs,Φt,Φl,Φm,eq_self,hP,h9_1,h9_3,h9_20]
          · rfl
          · trivial
      · intro ss T10 L10 hI
        simp only [h9_1, h9_3] at hI 
        obtain ⟨h10_25, h10_1, h10_3, hL10, hinv⟩ := hI
        replace hL10 := hL10.symm
        subst hL10
        clear h9_1 h9_3 h9_20 T9
        refine RX.live [1, 3, 25] (fun T11 hT11 => ?_)
        simp only [ΨH,forall_mem_nil',ΦU,Φy,Φz,ΦI,ev,Φi,Φu,Φn,Φo,Φx,Φw,Φa,Φp,reduceIte,reduceCtorEq,if_true,if_false,Φq,Φk,Φb,Φc,true_and,and_true,false_and,and_false,true_implies,forall_const,false_implies,ne_eq,not_true_eq_false,not_false_eq_true,decide_true,decide_false,Φv,and_self,true_or,or_true,dite_true,dite_false,Φe,Φd,decide_eq_true_eq,decide_eq_false_iff_not,Φf,Φh,Φg,Φj,beq_self_eq_true,Φr,Φs,Φt,Φl,Φm,eq_self,hP,h10_25,h10_1,h10_3] at hT11
        obtain ⟨h11_1, h11_3, h11_25⟩ := hT11
        clear h10_25 h10_1 h10_3 T10
        refine RX.join 5 (fun (ss : Unit) T L' => T 30 = .bool (decide (l < 0 ∨ 262 ≤ l ∨ c < 0 ∨ 14 ≤ c)) ∧ T 1 = T11 1 ∧ T 3 = T11 3 ∧ L' = some (bx, .cells #[.int .i64 l, .int .i64 c, .bool o, .int .i64 g] 24 (0, 0)) :: L ∧ (True)) (fun K12 hK12 => ?_) ?_
        · simp only [h11_1, h11_3] at hK12
          simp (maxSteps := 1000000) only [ΦU,Φy,Φz,ΦI,ev,Φi,Φu,Φn,Φo,Φx,Φw,Φa,Φp,reduceIte,reduceCtorEq,if_true,if_false,Φq,Φk,Φb,Φc,true_and,and_true,false_and,and_false,true_implies,forall_const,false_implies,ne_eq,not_true_eq_false,not_false_eq_true,decide_true,decide_false,Φv,and_self,true_or,or_true,dite_true,dite_false,Φe,Φd,decide_eq_true_eq,decide_eq_false_iff_not,Φf,Φh,Φg,Φj,beq_self_eq_true,Φr,Φs,Φt,Φl,Φm,eq_self,Ψx,Ψl,Ψm,VCops,VQops,Ψv,putVC,VC,VQ,ΦV,ΦW,ΦN,ΦO,ΦE,ΦF,ΦJ,List.getElem?_cons_zero,List.getElem?_cons_succ,List.getElem?_nil,List.getElem?_toArray,Ψc,Ψi,ΦP,ΦA,ΦB,ΦT,ΦM,ΦX,ΦK,ΦQ,ΦR,ΦY,ΦG,ΦH,ΦZ,ΦC,ΦD,Ψa,ΦL,Ψj,ΦS,Ψb,Ψd,Ψe,Ψg,Ψh,Ψn,exists_eq_left,exists_eq_left',exists_const,Ψs,Ψo,Ψp,fa_ptr,Ψu,Ψq,Ψw,Ψf,Ψr,Ψt,Ψk,T.elA_24,T.lay_24,T.szA_24,T.zr_24,Tryd.underlying24,ld_ptr,loadVC,loadN,T.szA_3,T.zr_3,Tryd.underlying3,bin_geq,pick_bool,hP,h11_1,h11_3,h11_25]
          repeat' (first | refine iteB (fun hg => ?_) (fun hg => ?_) | refine iteI (fun hg => ?_) (fun hg => ?_) | ((first | refine ⟨by omega, ?_⟩ | refine ⟨_, Cell.at 0 rfl rfl, ?_⟩ | fail); try simp (maxSteps := 1000000) only [ΦU,Φy,Φz,ΦI,ev,Φi,Φu,Φn,Φo,Φx,Φw,Φa,Φp,reduceIte,reduceCtorEq,if_true,if_false,Φq,Φk,Φb,Φc,true_and,and_true,false_and,and_false,true_implies,forall_const,false_implies,ne_eq,not_true_eq_false,not_false_eq_true,decide_true,decide_false,Φv,and_self,true_or,or_true,dite_true,dite_false,Φe,Φd,decide_eq_true_eq,decide_eq_false_iff_not,Φf,Φh,Φg,Φj,beq_self_eq_true,Φr,Φs,Φt,Φl,Φm,eq_self,Ψx,Ψl,Ψm,VCops,VQops,Ψv,putVC,VC,VQ,ΦV,ΦW,ΦN,ΦO,ΦE,ΦF,ΦJ,List.getElem?_cons_zero,List.getElem?_cons_succ,List.getElem?_nil,List.getElem?_toArray,Ψc,Ψi,ΦP,ΦA,ΦB,ΦT,ΦM,ΦX,ΦK,ΦQ,ΦR,ΦY,ΦG,ΦH,ΦZ,ΦC,ΦD,Ψa,ΦL,Ψj,ΦS,Ψb,Ψd,Ψe,Ψg,Ψh,Ψn,exists_eq_left,exists_eq_left',exists_const,Ψs,Ψo,Ψp,fa_ptr,Ψu,Ψq,Ψw,Ψf,Ψr,Ψt,Ψk,T.elA_24,T.lay_24,T.szA_24,T.zr_24,Tryd.underlying24,ld_ptr,loadVC,loadN,T.szA_3,T.zr_3,Tryd.underlying3,bin_geq,pick_bool,hP,h11_1,h11_3,h11_25]) | fail)
          all_goals
            refine hK12 () _ (some (bx, .cells #[.int .i64 l, .int .i64 c, .bool o, .int .i64 g] 24 (0, 0)) :: L) _ (by first | exact Less.refl _ | exact Less.drop _ _ | exact Less.drops (Less.drop _ _) | exact Less.drops (Less.drops (Less.drop _ _)) | exact Less.drops (Less.drops (Less.drops (Less.drop _ _))) | exact Less.drops (Less.drops (Less.drops (Less.drops (Less.drop _ _))))) ?_
            try dsimp only
            refine ⟨?_, ?_, ?_, ?_, ?_⟩
            · simp (maxSteps := 1000000) only [ΦU,Φy,Φz,ΦI,ev,Φi,Φu,Φn,Φo,Φx,Φw,Φa,Φp,reduceIte,reduceCtorEq,if_true,if_false,Φq,Φk,Φb,Φc,true_and,and_true,false_and,and_false,true_implies,forall_const,false_implies,ne_eq,not_true_eq_false,not_false_eq_true,decide_true,decide_false,Φv,and_self,true_or,or_true,dite_true,dite_false,Φe,Φd,decide_eq_true_eq,decide_eq_false_iff_not,Φf,Φh,Φg,Φj,beq_self_eq_true,Φr,Φs,Φt,Φl,Φm,eq_self,hP,h11_1,h11_3,h11_25]
              first | done | exact congrArg _ (decide_eq_decide.2 (by omega)) | exact congrArg _ (decide_eq_true (by omega)).symm | exact congrArg _ (decide_eq_false (by omega)).symm
            · simp (maxSteps := 1000000) only [ΦU,Φy,Φz,ΦI,ev,Φi,Φu,Φn,Φo,Φx,Φw,Φa,Φp,reduceIte,reduceCtorEq,if_true,if_false,Φq,Φk,Φb,Φc,true_and,and_true,false_and,and_false,true_implies,forall_const,false_implies,ne_eq,not_true_eq_false,not_false_eq_true,decide_true,decide_false,Φv,and_self,true_or,or_true,dite_true,dite_false,Φe,Φd,decide_eq_true_eq,decide_eq_false_iff_not,Φf,Φh,Φg,Φj,beq_self_eq_true,Φr,Φs,Φt,Φl,Φm,eq_self,hP,h11_1,h11_3,h11_25]
            · simp (maxSteps := 1000000) only [ΦU,Φy,Φz,ΦI,ev,Φi,Φu,Φn,Φo,Φx,Φw,Φa,Φp,reduceIte,reduceCtorEq,if_true,if_false,Φq,Φk,Φb,Φc,true_and,and_true,false_and,and_false,true_implies,forall_const,false_implies,ne_eq,not_true_eq_false,not_false_eq_true,decide_true,decide_false,Φv,and_self,true_or,or_true,dite_true,dite_false,Φe,Φd,decide_eq_true_eq,decide_eq_false_iff_not,Φf,Φh,Φg,Φj,beq_self_eq_true,Φr,Φs,Φt,Φl,Φm,eq_self,hP,h11_1,h11_3,h11_25]
            · rfl
            · trivial
        · intro ss T12 L12 hI
          simp only [h11_1, h11_3] at hI 
          obtain ⟨h12_30, h12_1, h12_3, hL12, hinv⟩ := hI
          replace hL12 := hL12.symm
          subst hL12
          clear h11_1 h11_3 h11_25 T11
          refine RX.live [1, 3, 30] (fun T13 hT13 => ?_)
          simp only [ΨH,forall_mem_nil',ΦU,Φy,Φz,ΦI,ev,Φi,Φu,Φn,Φo,Φx,Φw,Φa,Φp,reduceIte,reduceCtorEq,if_true,if_false,Φq,Φk,Φb,Φc,true_and,and_true,false_and,and_false,true_implies,forall_const,false_implies,ne_eq,not_true_eq_false,not_false_eq_true,decide_true,decide_false,Φv,and_self,true_or,or_true,dite_true,dite_false,Φe,Φd,decide_eq_true_eq,decide_eq_false_iff_not,Φf,Φh,Φg,Φj,beq_self_eq_true,Φr,Φs,Φt,Φl,Φm,eq_self,hP,h12_30,h12_1,h12_3] at hT13
          obtain ⟨h13_1, h13_3, h13_30⟩ := hT13
          clear h12_30 h12_1 h12_3 T12
          refine RX.join 5 (fun (ss : Unit) T L' => T 35 = .bool (decide (l < 0 ∨ 262 ≤ l ∨ c < 0 ∨ 14 ≤ c ∨ g < 0)) ∧ T 1 = T13 1 ∧ T 3 = T13 3 ∧ L' = some (bx, .cells #[.int .i64 l, .int .i64 c, .bool o, .int .i64 g] 24 (0, 0)) :: L ∧ (True)) (fun K13 hK13 => ?_) ?_
          · simp only [h13_1, h13_3] at hK13
            simp (maxSteps := 1000000) only [ΦU,Φy,Φz,ΦI,ev,Φi,Φu,Φn,Φo,Φx,Φw,Φa,Φp,reduceIte,reduceCtorEq,if_true,if_false,Φq,Φk,Φb,Φc,true_and,and_true,false_and,and_false,true_implies,forall_const,false_implies,ne_eq,not_true_eq_false,not_false_eq_true,decide_true,decide_false,Φv,and_self,true_or,or_true,dite_true,dite_false,Φe,Φd,decide_eq_true_eq,decide_eq_false_iff_not,Φf,Φh,Φg,Φj,beq_self_eq_true,Φr,Φs,Φt,Φl,Φm,eq_self,Ψx,Ψl,Ψm,VCops,VQops,Ψv,putVC,VC,VQ,ΦV,ΦW,ΦN,ΦO,ΦE,ΦF,ΦJ,List.getElem?_cons_zero,List.getElem?_cons_succ,List.getElem?_nil,List.getElem?_toArray,Ψc,Ψi,ΦP,ΦA,ΦB,ΦT,ΦM,ΦX,ΦK,ΦQ,ΦR,ΦY,ΦG,ΦH,ΦZ,ΦC,ΦD,Ψa,ΦL,Ψj,ΦS,Ψb,Ψd,Ψe,Ψg,Ψh,Ψn,exists_eq_left,exists_eq_left',exists_const,Ψs,Ψo,Ψp,fa_ptr,Ψu,Ψq,Ψw,Ψf,Ψr,Ψt,Ψk,T.elA_24,T.lay_24,T.szA_24,T.zr_24,Tryd.underlying24,ld_ptr,loadVC,loadN,T.szA_3,T.zr_3,Tryd.underlying3,bin_lss,pick_bool,hP,h13_1,h13_3,h13_30]
            repeat' (first | refine iteB (fun hg => ?_) (fun hg => ?_) | refine iteI (fun hg => ?_) (fun hg => ?_) | ((first | refine ⟨by omega, ?_⟩ | refine ⟨_, Cell.at 0 rfl rfl, ?_⟩ | fail); try simp (maxSteps := 1000000) only [ΦU,Φy,Φz,ΦI,ev,Φi,Φu,Φn,Φo,Φx,Φw,Φa,Φp,reduceIte,reduceCtorEq,if_true,if_false,Φq,Φk,Φb,Φc,true_and,and_true,false_and,and_false,true_implies,forall_const,false_implies,ne_eq,not_true_eq_false,not_false_eq_true,decide_true,decide_false,Φv,and_self,true_or,or_true,dite_true,dite_false,Φe,Φd,decide_eq_true_eq,decide_eq_false_iff_not,Φf,Φh,Φg,Φj,beq_self_eq_true,Φr,Φs,Φt,Φl,Φm,eq_self,Ψx,Ψl,Ψm,VCops,VQops,Ψv,putVC,VC,VQ,ΦV,ΦW,ΦN,ΦO,ΦE,ΦF,ΦJ,List.getElem?_cons_zero,List.getElem?_cons_succ,List.getElem?_nil,List.getElem?_toArray,Ψc,Ψi,ΦP,ΦA,ΦB,ΦT,ΦM,ΦX,ΦK,ΦQ,ΦR,ΦY,ΦG,ΦH,ΦZ,ΦC,ΦD,Ψa,ΦL,Ψj,ΦS,Ψb,Ψd,Ψe,Ψg,Ψh,Ψn,exists_eq_left,exists_eq_left',exists_const,Ψs,Ψo,Ψp,fa_ptr,Ψu,Ψq,Ψw,Ψf,Ψr,Ψt,Ψk,T.elA_24,T.lay_24,T.szA_24,T.zr_24,Tryd.underlying24,ld_ptr,loadVC,loadN,T.szA_3,T.zr_3,Tryd.underlying3,bin_lss,pick_bool,hP,h13_1,h13_3,h13_30]) | fail)
            all_goals
              refine hK13 () _ (some (bx, .cells #[.int .i64 l, .int .i64 c, .bool o, .int .i64 g] 24 (0, 0)) :: L) _ (by first | exact Less.refl _ | exact Less.drop _ _ | exact Less.drops (Less.drop _ _) | exact Less.drops (Less.drops (Less.drop _ _)) | exact Less.drops (Less.drops (Less.drops (Less.drop _ _))) | exact Less.drops (Less.drops (Less.drops (Less.drops (Less.drop _ _))))) ?_
              try dsimp only
              refine ⟨?_, ?_, ?_, ?_, ?_⟩
              · simp (maxSteps := 1000000) only [ΦU,Φy,Φz,ΦI,ev,Φi,Φu,Φn,Φo,Φx,Φw,Φa,Φp,reduceIte,reduceCtorEq,if_true,if_false,Φq,Φk,Φb,Φc,true_and,and_true,false_and,and_false,true_implies,forall_const,false_implies,ne_eq,not_true_eq_false,not_false_eq_true,decide_true,decide_false,Φv,and_self,true_or,or_true,dite_true,dite_false,Φe,Φd,decide_eq_true_eq,decide_eq_false_iff_not,Φf,Φh,Φg,Φj,beq_self_eq_true,Φr,Φs,Φt,Φl,Φm,eq_self,hP,h13_1,h13_3,h13_30]
                first | done | exact congrArg _ (decide_eq_decide.2 (by omega)) | exact congrArg _ (decide_eq_true (by omega)).symm | exact congrArg _ (decide_eq_false (by omega)).symm
              · simp (maxSteps := 1000000) only [ΦU,Φy,Φz,ΦI,ev,Φi,Φu,Φn,Φo,Φx,Φw,Φa,Φp,reduceIte,reduceCtorEq,if_true,if_false,Φq,Φk,Φb,Φc,true_and,and_true,false_and,and_false,true_implies,forall_const,false_implies,ne_eq,not_true_eq_false,not_false_eq_true,decide_true,decide_false,Φv,and_self,true_or,or_true,dite_true,dite_false,Φe,Φd,decide_eq_true_eq,decide_eq_false_iff_not,Φf,Φh,Φg,Φj,beq_self_eq_true,Φr,Φs,Φt,Φl,Φm,eq_self,hP,h13_1,h13_3,h13_30]
              · simp (maxSteps := 1000000) only [ΦU,Φy,Φz,ΦI,ev,Φi,Φu,Φn,Φo,Φx,Φw,Φa,Φp,reduceIte,reduceCtorEq,if_true,if_false,Φq,Φk,Φb,Φc,true_and,and_true,false_and,and_false,true_implies,forall_const,false_implies,ne_eq,not_true_eq_false,not_false_eq_true,decide_true,decide_false,Φv,and_self,true_or,or_true,dite_true,dite_false,Φe,Φd,decide_eq_true_eq,decide_eq_false_iff_not,Φf,Φh,Φg,Φj,beq_self_eq_true,Φr,Φs,Φt,Φl,Φm,eq_self,hP,h13_1,h13_3,h13_30]
              · rfl
              · trivial
          · intro ss T14 L14 hI
            simp only [h13_1, h13_3] at hI 
            obtain ⟨h14_35, h14_1, h14_3, hL14, hinv⟩ := hI
            replace hL14 := hL14.symm
            subst hL14
            clear h13_1 h13_3 h13_30 T13
            refine RX.live [1, 3, 35] (fun T15 hT15 => ?_)
            simp only [ΨH,forall_mem_nil',ΦU,Φy,Φz,ΦI,ev,Φi,Φu,Φn,Φo,Φx,Φw,Φa,Φp,reduceIte,reduceCtorEq,if_true,if_false,Φq,Φk,Φb,Φc,true_and,and_true,false_and,and_false,true_implies,forall_const,false_implies,ne_eq,not_true_eq_false,not_false_eq_true,decide_true,decide_false,Φv,and_self,true_or,or_true,dite_true,dite_false,Φe,Φd,decide_eq_true_eq,decide_eq_false_iff_not,Φf,Φh,Φg,Φj,beq_self_eq_true,Φr,Φs,Φt,Φl,Φm,eq_self,hP,h14_35,h14_1,h14_3] at hT15
            obtain ⟨h15_1, h15_3, h15_35⟩ := hT15
            clear h14_35 h14_1 h14_3 T14
            refine RX.join 6 (fun (ss : Unit) T L' => T 41 = .bool (decide (¬ (0 ≤ l ∧ l < 262 ∧ 0 ≤ c ∧ c < 14 ∧ 0 ≤ g ∧ g ≤ 8 ∧ (g = 0 ∨ 80 ≤ l ∧ l ≤ 207 ∧ g ≤ c - 2)))) ∧ L' = some (bx, .cells #[.int .i64 l, .int .i64 c, .bool o, .int .i64 g] 24 (0, 0)) :: L ∧ (True)) (fun K14 hK14 => ?_) ?_
            · simp (maxSteps := 1000000) only [ΦU,Φy,Φz,ΦI,ev,Φi,Φu,Φn,Φo,Φx,Φw,Φa,Φp,reduceIte,reduceCtorEq,if_true,if_false,Φq,Φk,Φb,Φc,true_and,and_true,false_and,and_false,true_implies,forall_const,false_implies,ne_eq,not_true_eq_false,not_false_eq_true,decide_true,decide_false,Φv,and_self,true_or,or_true,dite_true,dite_false,Φe,Φd,decide_eq_true_eq,decide_eq_false_iff_not,Φf,Φh,Φg,Φj,beq_self_eq_true,Φr,Φs,Φt,Φl,Φm,eq_self,Ψx,Ψl,Ψm,VCops,VQops,Ψv,putVC,VC,VQ,ΦV,ΦW,ΦN,ΦO,ΦE,ΦF,ΦJ,List.getElem?_cons_zero,List.getElem?_cons_succ,List.getElem?_nil,List.getElem?_toArray,Ψc,Ψi,ΦP,ΦA,ΦB,ΦT,ΦM,ΦX,ΦK,ΦQ,ΦR,ΦY,ΦG,ΦH,ΦZ,ΦC,ΦD,Ψa,ΦL,Ψj,ΦS,Ψb,Ψd,Ψe,Ψg,Ψh,Ψn,exists_eq_left,exists_eq_left',exists_const,Ψs,Ψo,Ψp,fa_ptr,Ψu,Ψq,Ψw,Ψf,Ψr,Ψt,Ψk,T.elA_24,T.lay_24,T.szA_24,T.zr_24,Tryd.underlying24,ld_ptr,loadVC,loadN,T.szA_3,T.zr_3,Tryd.underlying3,bin_gtr,pick_bool,hP,h15_1,h15_3,h15_35]
              repeat' (first | refine iteB (fun hg => ?_) (fun hg => ?_) | refine iteI (fun hg => ?_) (fun hg => ?_) | ((first | refine ⟨by omega, ?_⟩ | refine ⟨_, Cell.at 0 rfl rfl, ?_⟩ | fail); try simp (maxSteps := 1000000) only [ΦU,Φy,Φz,ΦI,ev,Φi,Φu,Φn,Φo,Φx,Φw,Φa,Φp,reduceIte,reduceCtorEq,if_true,if_false,Φq,Φk,Φb,Φc,true_and,and_true,false_and,and_false,true_implies,forall_const,false_implies,ne_eq,not_true_eq_false,not_false_eq_true,decide_true,decide_false,Φv,and_self,true_or,or_true,dite_true,dite_false,Φe,Φd,decide_eq_true_eq,decide_eq_false_iff_not,Φf,Φh,Φg,Φj,beq_self_eq_true,Φr,Φs,Φt,Φl,Φm,eq_self,Ψx,Ψl,Ψm,VCops,VQops,Ψv,putVC,VC,VQ,ΦV,ΦW,ΦN,ΦO,ΦE,ΦF,ΦJ,List.getElem?_cons_zero,List.getElem?_cons_succ,List.getElem?_nil,List.getElem?_toArray,Ψc,Ψi,ΦP,ΦA,ΦB,ΦT,ΦM,ΦX,ΦK,ΦQ,ΦR,ΦY,ΦG,ΦH,ΦZ,ΦC,ΦD,Ψa,ΦL,Ψj,ΦS,Ψb,Ψd,Ψe,Ψg,Ψh,Ψn,exists_eq_left,exists_eq_left',exists_const,Ψs,Ψo,Ψp,fa_ptr,Ψu,Ψq,Ψw,Ψf,Ψr,Ψt,Ψk,T.elA_24,T.lay_24,T.szA_24,T.zr_24,Tryd.underlying24,ld_ptr,loadVC,loadN,T.szA_3,T.zr_3,Tryd.underlying3,bin_gtr,pick_bool,hP,h15_1,h15_3,h15_35]) | fail)
              all_goals
                refine hK14 () _ (some (bx, .cells #[.int .i64 l, .int .i64 c, .bool o, .int .i64 g] 24 (0, 0)) :: L) _ (by first | exact Less.refl _ | exact Less.drop _ _ | exact Less.drops (Less.drop _ _) | exact Less.drops (Less.drops (Less.drop _ _)) | exact Less.drops (Less.drops (Less.drops (Less.drop _ _))) | exact Less.drops (Less.drops (Less.drops (Less.drops (Less.drop _ _))))) ?_
                try dsimp only
                refine ⟨?_, ?_, ?_⟩
                · simp (maxSteps := 1000000) only [ΦU,Φy,Φz,ΦI,ev,Φi,Φu,Φn,Φo,Φx,Φw,Φa,Φp,reduceIte,reduceCtorEq,if_true,if_false,Φq,Φk,Φb,Φc,true_and,and_true,false_and,and_false,true_implies,forall_const,false_implies,ne_eq,not_true_eq_false,not_false_eq_true,decide_true,decide_false,Φv,and_self,true_or,or_true,dite_true,dite_false,Φe,Φd,decide_eq_true_eq,decide_eq_false_iff_not,Φf,Φh,Φg,Φj,beq_self_eq_true,Φr,Φs,Φt,Φl,Φm,eq_self,hP,h15_1,h15_3,h15_35]
                  first | done | exact congrArg _ (decide_eq_decide.2 (by omega)) | exact congrArg _ (decide_eq_true (by omega)).symm | exact congrArg _ (decide_eq_false (by omega)).symm
                · rfl
                · trivial
            · intro ss T16 L16 hI
              obtain ⟨h16_41, hL16, hinv⟩ := hI
              replace hL16 := hL16.symm
              subst hL16
              clear h15_1 h15_3 h15_35 T15
              refine RX.done ?_
              simp (maxSteps := 1000000) only [ΦU,Φy,Φz,ΦI,ev,Φi,Φu,Φn,Φo,Φx,Φw,Φa,Φp,reduceIte,reduceCtorEq,if_true,if_false,Φq,Φk,Φb,Φc,true_and,and_true,false_and,and_false,true_implies,forall_const,false_implies,ne_eq,not_true_eq_false,not_false_eq_true,decide_true,decide_false,Φv,and_self,true_or,or_true,dite_true,dite_false,Φe,Φd,decide_eq_true_eq,decide_eq_false_iff_not,Φf,Φh,Φg,Φj,beq_self_eq_true,Φr,Φs,Φt,Φl,Φm,eq_self,Ψx,Ψl,Ψm,VCops,VQops,Ψv,putVC,VC,VQ,ΦV,ΦW,ΦN,ΦO,ΦE,ΦF,ΦJ,List.getElem?_cons_zero,List.getElem?_cons_succ,List.getElem?_nil,List.getElem?_toArray,Ψc,Ψi,ΦP,ΦA,ΦB,ΦT,ΦM,ΦX,ΦK,ΦQ,ΦR,ΦY,ΦG,ΦH,ΦZ,ΦC,ΦD,Ψa,ΦL,Ψj,ΦS,Ψb,Ψd,Ψe,Ψg,Ψh,Ψn,exists_eq_left,exists_eq_left',exists_const,Ψs,Ψo,Ψp,hP,h16_41]
              refine hK9 _ _ ?_
              try clear hK9 K9
              refine SX.cond_k fun X15 Y15 hX15 hY15 => ?_
              simp (maxSteps := 1000000) only [ΦU,Φy,Φz,ΦI,ev,Φi,Φu,Φn,Φo,Φx,Φw,Φa,Φp,reduceIte,reduceCtorEq,if_true,if_false,Φq,Φk,Φb,Φc,true_and,and_true,false_and,and_false,true_implies,forall_const,false_implies,ne_eq,not_true_eq_false,not_false_eq_true,decide_true,decide_false,Φv,and_self,true_or,or_true,dite_true,dite_false,Φe,Φd,decide_eq_true_eq,decide_eq_false_iff_not,Φf,Φh,Φg,Φj,beq_self_eq_true,Φr,Φs,Φt,Φl,Φm,eq_self,hP,h16_41,condVC]
              refine ⟨fun hc41 => hX15 ?_, fun hc41 => hY15 ?_⟩
              · clear hX15 hY15 X15 Y15
                refine SX.seq_k fun K16 hK16 => ?_
                refine SX.region ?_
                simp (maxSteps := 1000000) only [ΦU,Φy,Φz,ΦI,ev,Φi,Φu,Φn,Φo,Φx,Φw,Φa,Φp,reduceIte,reduceCtorEq,if_true,if_false,Φq,Φk,Φb,Φc,true_and,and_true,false_and,and_false,true_implies,forall_const,false_implies,ne_eq,not_true_eq_false,not_false_eq_true,decide_true,decide_false,Φv,and_self,true_or,or_true,dite_true,dite_false,Φe,Φd,decide_eq_true_eq,decide_eq_false_iff_not,Φf,Φh,Φg,Φj,beq_self_eq_true,Φr,Φs,Φt,Φl,Φm,eq_self,Ψx,Ψl,Ψm,VCops,VQops,Ψv,putVC,VC,VQ,ΦV,ΦW,ΦN,ΦO,ΦE,ΦF,ΦJ,List.getElem?_cons_zero,List.getElem?_cons_succ,List.getElem?_nil,List.getElem?_toArray,Ψc,Ψi,ΦP,ΦA,ΦB,ΦT,ΦM,ΦX,ΦK,ΦQ,ΦR,ΦY,ΦG,ΦH,ΦZ,ΦC,ΦD,Ψa,ΦL,Ψj,ΦS,Ψb,Ψd,Ψe,Ψg,Ψh,Ψn,exists_eq_left,exists_eq_left',exists_const,Ψs,Ψo,Ψp,hP,h16_41]
                refine hK16 _ _ ?_
                try clear hK16 K16
                refine SX.ret ?_
                simp only [Φi, Φu, Φn, Φo, Φx, Φw, Φa, if_true, if_false, reduceIte, retQ_ret]
                try simp only [res0,res1,res2,res3,ΦU,Φy,Φz,ΦI,ev,Φi,Φu,Φn,Φo,Φx,Φw,Φa,Φp,reduceIte,reduceCtorEq,if_true,if_false,Φq,Φk,Φb,Φc,true_and,and_true,false_and,and_false,true_implies,forall_const,false_implies,ne_eq,not_true_eq_false,not_false_eq_true,decide_true,decide_false,Φv,and_self,true_or,or_true,dite_true,dite_false,Φe,Φd,decide_eq_true_eq,decide_eq_false_iff_not,Φf,Φh,Φg,Φj,beq_self_eq_true,Φr,Φs,Φt,Φl,Φm,eq_self,hP,h16_41]
                refine ⟨_, L, (by first | exact Less.refl _ | exact Less.drop _ _ | exact Less.drops (Less.drop _ _) | exact Less.drops (Less.drops (Less.drop _ _)) | exact Less.drops (Less.drops (Less.drops (Less.drop _ _))) | exact Less.drops (Less.drops (Less.drops (Less.drops (Less.drop _ _))))), rfl, ?_, rfl⟩
                rw [chk, okB, decide_eq_false hc41]; rfl
              · clear hX15 hY15 X15 Y15
                refine SX.skip ?_
                simp only [Φi, Φu, Φn, Φo, Φx, Φw, Φa, if_true, if_false, reduceIte]
                refine hK8 _ _ ?_
                try clear hK8 K8
                refine SX.seq_k fun K17 hK17 => ?_
                refine SX.region ?_
                simp (maxSteps := 1000000) only [ΦU,Φy,Φz,ΦI,ev,Φi,Φu,Φn,Φo,Φx,Φw,Φa,Φp,reduceIte,reduceCtorEq,if_true,if_false,Φq,Φk,Φb,Φc,true_and,and_true,false_and,and_false,true_implies,forall_const,false_implies,ne_eq,not_true_eq_false,not_false_eq_true,decide_true,decide_false,Φv,and_self,true_or,or_true,dite_true,dite_false,Φe,Φd,decide_eq_true_eq,decide_eq_false_iff_not,Φf,Φh,Φg,Φj,beq_self_eq_true,Φr,Φs,Φt,Φl,Φm,eq_self,Ψx,Ψl,Ψm,VCops,VQops,Ψv,putVC,VC,VQ,ΦV,ΦW,ΦN,ΦO,ΦE,ΦF,ΦJ,List.getElem?_cons_zero,List.getElem?_cons_succ,List.getElem?_nil,List.getElem?_toArray,Ψc,Ψi,ΦP,ΦA,ΦB,ΦT,ΦM,ΦX,ΦK,ΦQ,ΦR,ΦY,ΦG,ΦH,ΦZ,ΦC,ΦD,Ψa,ΦL,Ψj,ΦS,Ψb,Ψd,Ψe,Ψg,Ψh,Ψn,exists_eq_left,exists_eq_left',exists_const,Ψs,Ψo,Ψp,hP,h16_41]
                refine hK17 _ _ ?_
                try clear hK17 K17
                refine SX.ret ?_
                simp only [Φi, Φu, Φn, Φo, Φx, Φw, Φa, if_true, if_false, reduceIte, retQ_ret]
                try simp only [res0,res1,res2,res3,ΦU,Φy,Φz,ΦI,ev,Φi,Φu,Φn,Φo,Φx,Φw,Φa,Φp,reduceIte,reduceCtorEq,if_true,if_false,Φq,Φk,Φb,Φc,true_and,and_true,false_and,and_false,true_implies,forall_const,false_implies,ne_eq,not_true_eq_false,not_false_eq_true,decide_true,decide_false,Φv,and_self,true_or,or_true,dite_true,dite_false,Φe,Φd,decide_eq_true_eq,decide_eq_false_iff_not,Φf,Φh,Φg,Φj,beq_self_eq_true,Φr,Φs,Φt,Φl,Φm,eq_self,hP,h16_41]
                refine ⟨_, L, (by first | exact Less.refl _ | exact Less.drop _ _ | exact Less.drops (Less.drop _ _) | exact Less.drops (Less.drops (Less.drop _ _)) | exact Less.drops (Less.drops (Less.drops (Less.drop _ _))) | exact Less.drops (Less.drops (Less.drops (Less.drops (Less.drop _ _))))), rfl, ?_, rfl⟩
                rw [chk, okB, decide_eq_true (by simpa using hc41)]; rfl
set_option maxHeartbeats 1000000 in
set_option maxRecDepth 100000 in
theorem wants_spec {Γ : Ctx} (hP : Γ.P = Tryd.prog) {L : Hp} {l c g : Int} {o : Bool} (S : SH Γ) :
    SCall Γ 48 #[(.agg #[.int .i64 l, .int .i64 c, .bool o, .int .i64 g])] L (fun v L' => v = .bool (wB l c o g) ∧ L' = L) := by
  refine SCall.enter (n := 26) (res1 2) (hP ▸ Tryd.func48) rfl rfl (by simp) (res1_ok rfl) ?_
  refine SX.seq_k fun K1 hK1 => ?_
  refine SX.region ?_
  simp (maxSteps := 1000000) only [ΦU,Φy,Φz,ΦI,ev,Φi,Φu,Φn,Φo,Φx,Φw,Φa,Φp,reduceIte,reduceCtorEq,if_true,if_false,Φq,Φk,Φb,Φc,true_and,and_true,false_and,and_false,true_implies,forall_const,false_implies,ne_eq,not_true_eq_false,not_false_eq_true,decide_true,decide_false,Φv,and_self,true_or,or_true,dite_true,dite_false,Φe,Φd,decide_eq_true_eq,decide_eq_false_iff_not,Φf,Φh,Φg,Φj,beq_self_eq_true,Φr,Φs,Φt,Φl,Φm,eq_self,Ψx,Ψl,Ψm,VCops,VQops,Ψv,putVC,VC,VQ,ΦV,ΦW,ΦN,ΦO,ΦE,ΦF,ΦJ,List.getElem?_cons_zero,List.getElem?_cons_succ,List.getElem?_nil,List.getElem?_toArray,Ψc,Ψi,ΦP,ΦA,ΦB,ΦT,ΦM,ΦX,ΦK,ΦQ,ΦR,ΦY,ΦG,ΦH,ΦZ,ΦC,ΦD,Ψa,ΦL,Ψj,ΦS,Ψb,Ψd,Ψe,Ψg,Ψh,Ψn,exists_eq_left,exists_eq_left',exists_const,Ψs,Ψo,Ψp,cells_int,cells_bool,ΨB,Ψz,ΨD,cells_agg,oneB_nil,oneB_cons,one_int,one_bool,one_string,ΨE,one_slice,one_map,one_func,ΨF,ΨC,one_iface,cells_map,cells_func,ΨA,Ψy,ΨG,T.elA_24,T.lay_24,T.szA_24,T.zr_24,Tryd.underlying24,hP]
  intro bx
  refine hK1 _ _ ?_
  try clear hK1 K1
  refine SX.seq_k fun K2 hK2 => ?_
  refine SX.quiet_x (hP ▸ T.mixed) (by kernel_rfl) ?_
  refine QX.live [1] (fun T1 hT1 => ?_)
  simp only [ΨH,forall_mem_nil',ΦU,Φy,Φz,ΦI,ev,Φi,Φu,Φn,Φo,Φx,Φw,Φa,Φp,reduceIte,reduceCtorEq,if_true,if_false,Φq,Φk,Φb,Φc,true_and,and_true,false_and,and_false,true_implies,forall_const,false_implies,ne_eq,not_true_eq_false,not_false_eq_true,decide_true,decide_false,Φv,and_self,true_or,or_true,dite_true,dite_false,Φe,Φd,decide_eq_true_eq,decide_eq_false_iff_not,Φf,Φh,Φg,Φj,beq_self_eq_true,Φr,Φs,Φt,Φl,Φm,eq_self,hP] at hT1
  have h1_1 := hT1; clear hT1
  refine QX.join 7 (fun (ss : Unit) T L' => T 9 = .bool (okB l c g && o) ∧ T 1 = T1 1 ∧ L' = some (bx, .cells #[.int .i64 l, .int .i64 c, .bool o, .int .i64 g] 24 (0, 0)) :: L ∧ (True)) (fun K3 hK3 => ?_) ?_
  · simp only [h1_1] at hK3
    simp (maxSteps := 1000000) only [ΦU,Φy,Φz,ΦI,ev,Φi,Φu,Φn,Φo,Φx,Φw,Φa,Φp,reduceIte,reduceCtorEq,if_true,if_false,Φq,Φk,Φb,Φc,true_and,and_true,false_and,and_false,true_implies,forall_const,false_implies,ne_eq,not_true_eq_false,not_false_eq_true,decide_true,decide_false,Φv,and_self,true_or,or_true,dite_true,dite_false,Φe,Φd,decide_eq_true_eq,decide_eq_false_iff_not,Φf,Φh,Φg,Φj,beq_self_eq_true,Φr,Φs,Φt,Φl,Φm,eq_self,Ψx,Ψl,Ψm,VCops,VQops,Ψv,putVC,VC,VQ,ΦV,ΦW,ΦN,ΦO,ΦE,ΦF,ΦJ,List.getElem?_cons_zero,List.getElem?_cons_succ,List.getElem?_nil,List.getElem?_toArray,Ψc,Ψi,ΦP,ΦA,ΦB,ΦT,ΦM,ΦX,ΦK,ΦQ,ΦR,ΦY,ΦG,ΦH,ΦZ,ΦC,ΦD,Ψa,ΦL,Ψj,ΦS,Ψb,Ψd,Ψe,Ψg,Ψh,Ψn,exists_eq_left,exists_eq_left',exists_const,Ψs,Ψo,Ψp,ld_ptr,loadVC,loadN,Ψu,Ψq,Ψw,Ψf,Ψr,Ψt,Ψk,T.elA_24,T.lay_24,T.szA_24,T.zr_24,Tryd.underlying24,qcall_f,call_f,len_slice,len_str,cap_slice,min_int,max_int,T.callable_27,bin_eql,bin_eqlb,bin_eqls,bin_eqla,T.szA_31,T.zr_31,Tryd.underlying31,fa_ptr,T.szA_4,T.zr_4,Tryd.underlying4,pick_bool,hP,h1_1,chk_eq,any1]
    repeat' (first | refine iteB (fun hg => ?_) (fun hg => ?_) | refine iteI (fun hg => ?_) (fun hg => ?_) | ((first | refine ⟨_, Check_spec hP S, ?_⟩ | refine ⟨_, within_spec (bs := [(80, 207)]) (a := ⟨0, 0, none⟩) hP S (by decide), ?_⟩ | refine ⟨by omega, ?_⟩ | refine ⟨_, Cell.at 0 rfl rfl, _, Cell.at 0 rfl rfl, _, Cell.at 0 rfl rfl, _, Cell.at 0 rfl rfl, ?_⟩ | refine ⟨_, Cell.at 0 rfl rfl, ?_⟩ | fail); try simp (maxSteps := 1000000) only [ΦU,Φy,Φz,ΦI,ev,Φi,Φu,Φn,Φo,Φx,Φw,Φa,Φp,reduceIte,reduceCtorEq,if_true,if_false,Φq,Φk,Φb,Φc,true_and,and_true,false_and,and_false,true_implies,forall_const,false_implies,ne_eq,not_true_eq_false,not_false_eq_true,decide_true,decide_false,Φv,and_self,true_or,or_true,dite_true,dite_false,Φe,Φd,decide_eq_true_eq,decide_eq_false_iff_not,Φf,Φh,Φg,Φj,beq_self_eq_true,Φr,Φs,Φt,Φl,Φm,eq_self,Ψx,Ψl,Ψm,VCops,VQops,Ψv,putVC,VC,VQ,ΦV,ΦW,ΦN,ΦO,ΦE,ΦF,ΦJ,List.getElem?_cons_zero,List.getElem?_cons_succ,List.getElem?_nil,List.getElem?_toArray,Ψc,Ψi,ΦP,ΦA,ΦB,ΦT,ΦM,ΦX,ΦK,ΦQ,ΦR,ΦY,ΦG,ΦH,ΦZ,ΦC,ΦD,Ψa,ΦL,Ψj,ΦS,Ψb,Ψd,Ψe,Ψg,Ψh,Ψn,exists_eq_left,exists_eq_left',exists_const,Ψs,Ψo,Ψp,ld_ptr,loadVC,loadN,Ψu,Ψq,Ψw,Ψf,Ψr,Ψt,Ψk,T.elA_24,T.lay_24,T.szA_24,T.zr_24,Tryd.underlying24,qcall_f,call_f,len_slice,len_str,cap_slice,min_int,max_int,T.callable_27,bin_eql,bin_eqlb,bin_eqls,bin_eqla,T.szA_31,T.zr_31,Tryd.underlying31,fa_ptr,T.szA_4,T.zr_4,Tryd.underlying4,pick_bool,hP,h1_1,chk_eq,any1]) | fail)
    all_goals
      refine hK3 () _ (some (bx, .cells #[.int .i64 l, .int .i64 c, .bool o, .int .i64 g] 24 (0, 0)) :: L) _ (by rfl) ?_
      try dsimp only
      refine ⟨?_, ?_, ?_, ?_⟩
      · simp (maxSteps := 1000000) only [ΦU,Φy,Φz,ΦI,ev,Φi,Φu,Φn,Φo,Φx,Φw,Φa,Φp,reduceIte,reduceCtorEq,if_true,if_false,Φq,Φk,Φb,Φc,true_and,and_true,false_and,and_false,true_implies,forall_const,false_implies,ne_eq,not_true_eq_false,not_false_eq_true,decide_true,decide_false,Φv,and_self,true_or,or_true,dite_true,dite_false,Φe,Φd,decide_eq_true_eq,decide_eq_false_iff_not,Φf,Φh,Φg,Φj,beq_self_eq_true,Φr,Φs,Φt,Φl,Φm,eq_self,hP,h1_1]
        first | done | rfl | (rw [hg]; rfl) | simp [hg]
      · simp (maxSteps := 1000000) only [ΦU,Φy,Φz,ΦI,ev,Φi,Φu,Φn,Φo,Φx,Φw,Φa,Φp,reduceIte,reduceCtorEq,if_true,if_false,Φq,Φk,Φb,Φc,true_and,and_true,false_and,and_false,true_implies,forall_const,false_implies,ne_eq,not_true_eq_false,not_false_eq_true,decide_true,decide_false,Φv,and_self,true_or,or_true,dite_true,dite_false,Φe,Φd,decide_eq_true_eq,decide_eq_false_iff_not,Φf,Φh,Φg,Φj,beq_self_eq_true,Φr,Φs,Φt,Φl,Φm,eq_self,hP,h1_1]
      · rfl
      · trivial
  · intro ss T2 L2 hE2 hI
    simp only [h1_1] at hI 
    obtain ⟨h2_9, h2_1, hL2, hinv⟩ := hI
    replace hL2 := hL2.symm
    subst hL2
    clear h1_1 T1
    clear hE2
    refine QX.live [1, 9] (fun T3 hT3 => ?_)
    simp only [ΨH,forall_mem_nil',ΦU,Φy,Φz,ΦI,ev,Φi,Φu,Φn,Φo,Φx,Φw,Φa,Φp,reduceIte,reduceCtorEq,if_true,if_false,Φq,Φk,Φb,Φc,true_and,and_true,false_and,and_false,true_implies,forall_const,false_implies,ne_eq,not_true_eq_false,not_false_eq_true,decide_true,decide_false,Φv,and_self,true_or,or_true,dite_true,dite_false,Φe,Φd,decide_eq_true_eq,decide_eq_false_iff_not,Φf,Φh,Φg,Φj,beq_self_eq_true,Φr,Φs,Φt,Φl,Φm,eq_self,hP,h2_9,h2_1] at hT3
    obtain ⟨h3_1, h3_9⟩ := hT3
    clear h2_9 h2_1 T2
    refine QX.join 6 (fun (ss : Unit) T L' => T 15 = .bool (okB l c g && o && decide (80 ≤ l ∧ l ≤ 207)) ∧ T 1 = T3 1 ∧ L' = some (bx, .cells #[.int .i64 l, .int .i64 c, .bool o, .int .i64 g] 24 (0, 0)) :: L ∧ (True)) (fun K4 hK4 => ?_) ?_
    · simp only [h3_1] at hK4
      simp (maxSteps := 1000000) only [ΦU,Φy,Φz,ΦI,ev,Φi,Φu,Φn,Φo,Φx,Φw,Φa,Φp,reduceIte,reduceCtorEq,if_true,if_false,Φq,Φk,Φb,Φc,true_and,and_true,false_and,and_false,true_implies,forall_const,false_implies,ne_eq,not_true_eq_false,not_false_eq_true,decide_true,decide_false,Φv,and_self,true_or,or_true,dite_true,dite_false,Φe,Φd,decide_eq_true_eq,decide_eq_false_iff_not,Φf,Φh,Φg,Φj,beq_self_eq_true,Φr,Φs,Φt,Φl,Φm,eq_self,Ψx,Ψl,Ψm,VCops,VQops,Ψv,putVC,VC,VQ,ΦV,ΦW,ΦN,ΦO,ΦE,ΦF,ΦJ,List.getElem?_cons_zero,List.getElem?_cons_succ,List.getElem?_nil,List.getElem?_toArray,Ψc,Ψi,ΦP,ΦA,ΦB,ΦT,ΦM,ΦX,ΦK,ΦQ,ΦR,ΦY,ΦG,ΦH,ΦZ,ΦC,ΦD,Ψa,ΦL,Ψj,ΦS,Ψb,Ψd,Ψe,Ψg,Ψh,Ψn,exists_eq_left,exists_eq_left',exists_const,Ψs,Ψo,Ψp,fa_ptr,Ψu,Ψq,Ψw,Ψf,Ψr,Ψt,Ψk,T.elA_24,T.lay_24,T.szA_24,T.zr_24,Tryd.underlying24,ld_ptr,loadVC,loadN,T.szA_3,T.zr_3,Tryd.underlying3,sliceVC,optI,T.elA_90,T.lay_90,T.szA_90,T.zr_90,Tryd.underlying90,qcall_f,call_f,len_slice,len_str,cap_slice,min_int,max_int,T.elS_88,T.szA_88,T.zr_88,Tryd.underlying88,T.callable_47,pick_bool,hP,h3_1,h3_9,chk_eq,any1]
      repeat' (first | refine iteB (fun hg => ?_) (fun hg => ?_) | refine iteI (fun hg => ?_) (fun hg => ?_) | ((first | refine ⟨_, Check_spec hP S, ?_⟩ | refine ⟨_, within_spec (bs := [(80, 207)]) (a := ⟨0, 0, none⟩) hP S (by decide), ?_⟩ | refine ⟨by omega, ?_⟩ | refine ⟨_, Cell.at 0 rfl rfl, ?_⟩ | fail); try simp (maxSteps := 1000000) only [ΦU,Φy,Φz,ΦI,ev,Φi,Φu,Φn,Φo,Φx,Φw,Φa,Φp,reduceIte,reduceCtorEq,if_true,if_false,Φq,Φk,Φb,Φc,true_and,and_true,false_and,and_false,true_implies,forall_const,false_implies,ne_eq,not_true_eq_false,not_false_eq_true,decide_true,decide_false,Φv,and_self,true_or,or_true,dite_true,dite_false,Φe,Φd,decide_eq_true_eq,decide_eq_false_iff_not,Φf,Φh,Φg,Φj,beq_self_eq_true,Φr,Φs,Φt,Φl,Φm,eq_self,Ψx,Ψl,Ψm,VCops,VQops,Ψv,putVC,VC,VQ,ΦV,ΦW,ΦN,ΦO,ΦE,ΦF,ΦJ,List.getElem?_cons_zero,List.getElem?_cons_succ,List.getElem?_nil,List.getElem?_toArray,Ψc,Ψi,ΦP,ΦA,ΦB,ΦT,ΦM,ΦX,ΦK,ΦQ,ΦR,ΦY,ΦG,ΦH,ΦZ,ΦC,ΦD,Ψa,ΦL,Ψj,ΦS,Ψb,Ψd,Ψe,Ψg,Ψh,Ψn,exists_eq_left,exists_eq_left',exists_const,Ψs,Ψo,Ψp,fa_ptr,Ψu,Ψq,Ψw,Ψf,Ψr,Ψt,Ψk,T.elA_24,T.lay_24,T.szA_24,T.zr_24,Tryd.underlying24,ld_ptr,loadVC,loadN,T.szA_3,T.zr_3,Tryd.underlying3,sliceVC,optI,T.elA_90,T.lay_90,T.szA_90,T.zr_90,Tryd.underlying90,qcall_f,call_f,len_slice,len_str,cap_slice,min_int,max_int,T.elS_88,T.szA_88,T.zr_88,Tryd.underlying88,T.callable_47,pick_bool,hP,h3_1,h3_9,chk_eq,any1]) | fail)
      all_goals
        refine hK4 () _ (some (bx, .cells #[.int .i64 l, .int .i64 c, .bool o, .int .i64 g] 24 (0, 0)) :: L) _ (by rfl) ?_
        try dsimp only
        refine ⟨?_, ?_, ?_, ?_⟩
        · simp (maxSteps := 1000000) only [ΦU,Φy,Φz,ΦI,ev,Φi,Φu,Φn,Φo,Φx,Φw,Φa,Φp,reduceIte,reduceCtorEq,if_true,if_false,Φq,Φk,Φb,Φc,true_and,and_true,false_and,and_false,true_implies,forall_const,false_implies,ne_eq,not_true_eq_false,not_false_eq_true,decide_true,decide_false,Φv,and_self,true_or,or_true,dite_true,dite_false,Φe,Φd,decide_eq_true_eq,decide_eq_false_iff_not,Φf,Φh,Φg,Φj,beq_self_eq_true,Φr,Φs,Φt,Φl,Φm,eq_self,hP,h3_1,h3_9]
          first | done | rfl | (rw [hg]; rfl) | simp [hg]
        · simp (maxSteps := 1000000) only [ΦU,Φy,Φz,ΦI,ev,Φi,Φu,Φn,Φo,Φx,Φw,Φa,Φp,reduceIte,reduceCtorEq,if_true,if_false,Φq,Φk,Φb,Φc,true_and,and_true,false_and,and_false,true_implies,forall_const,false_implies,ne_eq,not_true_eq_false,not_false_eq_true,decide_true,decide_false,Φv,and_self,true_or,or_true,dite_true,dite_false,Φe,Φd,decide_eq_true_eq,decide_eq_false_iff_not,Φf,Φh,Φg,Φj,beq_self_eq_true,Φr,Φs,Φt,Φl,Φm,eq_self,hP,h3_1,h3_9]
        · rfl
        · trivial
    · intro ss T4 L4 hE4 hI
      simp only [h3_1] at hI 
      obtain ⟨h4_15, h4_1, hL4, hinv⟩ := hI
      replace hL4 := hL4.symm
      subst hL4
      clear h3_1 h3_9 T3
      clear hE4
      refine QX.live [1, 15] (fun T5 hT5 => ?_)
      simp only [ΨH,forall_mem_nil',ΦU,Φy,Φz,ΦI,ev,Φi,Φu,Φn,Φo,Φx,Φw,Φa,Φp,reduceIte,reduceCtorEq,if_true,if_false,Φq,Φk,Φb,Φc,true_and,and_true,false_and,and_false,true_implies,forall_const,false_implies,ne_eq,not_true_eq_false,not_false_eq_true,decide_true,decide_false,Φv,and_self,true_or,or_true,dite_true,dite_false,Φe,Φd,decide_eq_true_eq,decide_eq_false_iff_not,Φf,Φh,Φg,Φj,beq_self_eq_true,Φr,Φs,Φt,Φl,Φm,eq_self,hP,h4_15,h4_1] at hT5
      obtain ⟨h5_1, h5_15⟩ := hT5
      clear h4_15 h4_1 T4
      refine QX.join 5 (fun (ss : Unit) T L' => T 20 = .bool (okB l c g && o && decide (80 ≤ l ∧ l ≤ 207) && decide (2 ≤ c)) ∧ T 1 = T5 1 ∧ L' = some (bx, .cells #[.int .i64 l, .int .i64 c, .bool o, .int .i64 g] 24 (0, 0)) :: L ∧ (True)) (fun K5 hK5 => ?_) ?_
      · simp only [h5_1] at hK5
        simp (maxSteps := 1000000) only [ΦU,Φy,Φz,ΦI,ev,Φi,Φu,Φn,Φo,Φx,Φw,Φa,Φp,reduceIte,reduceCtorEq,if_true,if_false,Φq,Φk,Φb,Φc,true_and,and_true,false_and,and_false,true_implies,forall_const,false_implies,ne_eq,not_true_eq_false,not_false_eq_true,decide_true,decide_false,Φv,and_self,true_or,or_true,dite_true,dite_false,Φe,Φd,decide_eq_true_eq,decide_eq_false_iff_not,Φf,Φh,Φg,Φj,beq_self_eq_true,Φr,Φs,Φt,Φl,Φm,eq_self,Ψx,Ψl,Ψm,VCops,VQops,Ψv,putVC,VC,VQ,ΦV,ΦW,ΦN,ΦO,ΦE,ΦF,ΦJ,List.getElem?_cons_zero,List.getElem?_cons_succ,List.getElem?_nil,List.getElem?_toArray,Ψc,Ψi,ΦP,ΦA,ΦB,ΦT,ΦM,ΦX,ΦK,ΦQ,ΦR,ΦY,ΦG,ΦH,ΦZ,ΦC,ΦD,Ψa,ΦL,Ψj,ΦS,Ψb,Ψd,Ψe,Ψg,Ψh,Ψn,exists_eq_left,exists_eq_left',exists_const,Ψs,Ψo,Ψp,fa_ptr,Ψu,Ψq,Ψw,Ψf,Ψr,Ψt,Ψk,T.elA_24,T.lay_24,T.szA_24,T.zr_24,Tryd.underlying24,ld_ptr,loadVC,loadN,T.szA_3,T.zr_3,Tryd.underlying3,bin_geq,pick_bool,hP,h5_1,h5_15,chk_eq,any1]
        repeat' (first | refine iteB (fun hg => ?_) (fun hg => ?_) | refine iteI (fun hg => ?_) (fun hg => ?_) | ((first | refine ⟨_, Check_spec hP S, ?_⟩ | refine ⟨_, within_spec (bs := [(80, 207)]) (a := ⟨0, 0, none⟩) hP S (by decide), ?_⟩ | refine ⟨by omega, ?_⟩ | refine ⟨_, Cell.at 0 rfl rfl, ?_⟩ | fail); try simp (maxSteps := 1000000) only [ΦU,Φy,Φz,ΦI,ev,Φi,Φu,Φn,Φo,Φx,Φw,Φa,Φp,reduceIte,reduceCtorEq,if_true,if_false,Φq,Φk,Φb,Φc,true_and,and_true,false_and,and_false,true_implies,forall_const,false_implies,ne_eq,not_true_eq_false,not_false_eq_true,decide_true,decide_false,Φv,and_self,true_or,or_true,dite_true,dite_false,Φe,Φd,decide_eq_true_eq,decide_eq_false_iff_not,Φf,Φh,Φg,Φj,beq_self_eq_true,Φr,Φs,Φt,Φl,Φm,eq_self,Ψx,Ψl,Ψm,VCops,VQops,Ψv,putVC,VC,VQ,ΦV,ΦW,ΦN,ΦO,ΦE,ΦF,ΦJ,List.getElem?_cons_zero,List.getElem?_cons_succ,List.getElem?_nil,List.getElem?_toArray,Ψc,Ψi,ΦP,ΦA,ΦB,ΦT,ΦM,ΦX,ΦK,ΦQ,ΦR,ΦY,ΦG,ΦH,ΦZ,ΦC,ΦD,Ψa,ΦL,Ψj,ΦS,Ψb,Ψd,Ψe,Ψg,Ψh,Ψn,exists_eq_left,exists_eq_left',exists_const,Ψs,Ψo,Ψp,fa_ptr,Ψu,Ψq,Ψw,Ψf,Ψr,Ψt,Ψk,T.elA_24,T.lay_24,T.szA_24,T.zr_24,Tryd.underlying24,ld_ptr,loadVC,loadN,T.szA_3,T.zr_3,Tryd.underlying3,bin_geq,pick_bool,hP,h5_1,h5_15,chk_eq,any1]) | fail)
        all_goals
          refine hK5 () _ (some (bx, .cells #[.int .i64 l, .int .i64 c, .bool o, .int .i64 g] 24 (0, 0)) :: L) _ (by rfl) ?_
          try dsimp only
          refine ⟨?_, ?_, ?_, ?_⟩
          · simp (maxSteps := 1000000) only [ΦU,Φy,Φz,ΦI,ev,Φi,Φu,Φn,Φo,Φx,Φw,Φa,Φp,reduceIte,reduceCtorEq,if_true,if_false,Φq,Φk,Φb,Φc,true_and,and_true,false_and,and_false,true_implies,forall_const,false_implies,ne_eq,not_true_eq_false,not_false_eq_true,decide_true,decide_false,Φv,and_self,true_or,or_true,dite_true,dite_false,Φe,Φd,decide_eq_true_eq,decide_eq_false_iff_not,Φf,Φh,Φg,Φj,beq_self_eq_true,Φr,Φs,Φt,Φl,Φm,eq_self,hP,h5_1,h5_15]
            first | done | rfl | (rw [hg]; rfl) | simp [hg]
          · simp (maxSteps := 1000000) only [ΦU,Φy,Φz,ΦI,ev,Φi,Φu,Φn,Φo,Φx,Φw,Φa,Φp,reduceIte,reduceCtorEq,if_true,if_false,Φq,Φk,Φb,Φc,true_and,and_true,false_and,and_false,true_implies,forall_const,false_implies,ne_eq,not_true_eq_false,not_false_eq_true,decide_true,decide_false,Φv,and_self,true_or,or_true,dite_true,dite_false,Φe,Φd,decide_eq_true_eq,decide_eq_false_iff_not,Φf,Φh,Φg,Φj,beq_self_eq_true,Φr,Φs,Φt,Φl,Φm,eq_self,hP,h5_1,h5_15]
          · rfl
          · trivial
      · intro ss T6 L6 hE6 hI
        simp only [h5_1] at hI 
        obtain ⟨h6_20, h6_1, hL6, hinv⟩ := hI
        replace hL6 := hL6.symm
        subst hL6
        clear h5_1 h5_15 T5
        clear hE6
        refine QX.live [1, 20] (fun T7 hT7 => ?_)
        simp only [ΨH,forall_mem_nil',ΦU,Φy,Φz,ΦI,ev,Φi,Φu,Φn,Φo,Φx,Φw,Φa,Φp,reduceIte,reduceCtorEq,if_true,if_false,Φq,Φk,Φb,Φc,true_and,and_true,false_and,and_false,true_implies,forall_const,false_implies,ne_eq,not_true_eq_false,not_false_eq_true,decide_true,decide_false,Φv,and_self,true_or,or_true,dite_true,dite_false,Φe,Φd,decide_eq_true_eq,decide_eq_false_iff_not,Φf,Φh,Φg,Φj,beq_self_eq_true,Φr,Φs,Φt,Φl,Φm,eq_self,hP,h6_20,h6_1] at hT7
        obtain ⟨h7_1, h7_20⟩ := hT7
        clear h6_20 h6_1 T6
        refine QX.join 5 (fun (ss : Unit) T L' => T 25 = .bool (okB l c g && o && decide (80 ≤ l ∧ l ≤ 207) && decide (2 ≤ c) && decide (g < 8)) ∧ L' = some (bx, .cells #[.int .i64 l, .int .i64 c, .bool o, .int .i64 g] 24 (0, 0)) :: L ∧ (True)) (fun K6 hK6 => ?_) ?_
        · simp (maxSteps := 1000000) only [ΦU,Φy,Φz,ΦI,ev,Φi,Φu,Φn,Φo,Φx,Φw,Φa,Φp,reduceIte,reduceCtorEq,if_true,if_false,Φq,Φk,Φb,Φc,true_and,and_true,false_and,and_false,true_implies,forall_const,false_implies,ne_eq,not_true_eq_false,not_false_eq_true,decide_true,decide_false,Φv,and_self,true_or,or_true,dite_true,dite_false,Φe,Φd,decide_eq_true_eq,decide_eq_false_iff_not,Φf,Φh,Φg,Φj,beq_self_eq_true,Φr,Φs,Φt,Φl,Φm,eq_self,Ψx,Ψl,Ψm,VCops,VQops,Ψv,putVC,VC,VQ,ΦV,ΦW,ΦN,ΦO,ΦE,ΦF,ΦJ,List.getElem?_cons_zero,List.getElem?_cons_succ,List.getElem?_nil,List.getElem?_toArray,Ψc,Ψi,ΦP,ΦA,ΦB,ΦT,ΦM,ΦX,ΦK,ΦQ,ΦR,ΦY,ΦG,ΦH,ΦZ,ΦC,ΦD,Ψa,ΦL,Ψj,ΦS,Ψb,Ψd,Ψe,Ψg,Ψh,Ψn,exists_eq_left,exists_eq_left',exists_const,Ψs,Ψo,Ψp,fa_ptr,Ψu,Ψq,Ψw,Ψf,Ψr,Ψt,Ψk,T.elA_24,T.lay_24,T.szA_24,T.zr_24,Tryd.underlying24,ld_ptr,loadVC,loadN,T.szA_3,T.zr_3,Tryd.underlying3,bin_lss,pick_bool,hP,h7_1,h7_20,chk_eq,any1]
          repeat' (first | refine iteB (fun hg => ?_) (fun hg => ?_) | refine iteI (fun hg => ?_) (fun hg => ?_) | ((first | refine ⟨_, Check_spec hP S, ?_⟩ | refine ⟨_, within_spec (bs := [(80, 207)]) (a := ⟨0, 0, none⟩) hP S (by decide), ?_⟩ | refine ⟨by omega, ?_⟩ | refine ⟨_, Cell.at 0 rfl rfl, ?_⟩ | fail); try simp (maxSteps := 1000000) only [ΦU,Φy,Φz,ΦI,ev,Φi,Φu,Φn,Φo,Φx,Φw,Φa,Φp,reduceIte,reduceCtorEq,if_true,if_false,Φq,Φk,Φb,Φc,true_and,and_true,false_and,and_false,true_implies,forall_const,false_implies,ne_eq,not_true_eq_false,not_false_eq_true,decide_true,decide_false,Φv,and_self,true_or,or_true,dite_true,dite_false,Φe,Φd,decide_eq_true_eq,decide_eq_false_iff_not,Φf,Φh,Φg,Φj,beq_self_eq_true,Φr,Φs,Φt,Φl,Φm,eq_self,Ψx,Ψl,Ψm,VCops,VQops,Ψv,putVC,VC,VQ,ΦV,ΦW,ΦN,ΦO,ΦE,ΦF,ΦJ,List.getElem?_cons_zero,List.getElem?_cons_succ,List.getElem?_nil,List.getElem?_toArray,Ψc,Ψi,ΦP,ΦA,ΦB,ΦT,ΦM,ΦX,ΦK,ΦQ,ΦR,ΦY,ΦG,ΦH,ΦZ,ΦC,ΦD,Ψa,ΦL,Ψj,ΦS,Ψb,Ψd,Ψe,Ψg,Ψh,Ψn,exists_eq_left,exists_eq_left',exists_const,Ψs,Ψo,Ψp,fa_ptr,Ψu,Ψq,Ψw,Ψf,Ψr,Ψt,Ψk,T.elA_24,T.lay_24,T.szA_24,T.zr_24,Tryd.underlying24,ld_ptr,loadVC,loadN,T.szA_3,T.zr_3,Tryd.underlying3,bin_lss,pick_bool,hP,h7_1,h7_20,chk_eq,any1]) | fail)
          all_goals
            refine hK6 () _ (some (bx, .cells #[.int .i64 l, .int .i64 c, .bool o, .int .i64 g] 24 (0, 0)) :: L) _ (by rfl) ?_
            try dsimp only
            refine ⟨?_, ?_, ?_⟩
            · simp (maxSteps := 1000000) only [ΦU,Φy,Φz,ΦI,ev,Φi,Φu,Φn,Φo,Φx,Φw,Φa,Φp,reduceIte,reduceCtorEq,if_true,if_false,Φq,Φk,Φb,Φc,true_and,and_true,false_and,and_false,true_implies,forall_const,false_implies,ne_eq,not_true_eq_false,not_false_eq_true,decide_true,decide_false,Φv,and_self,true_or,or_true,dite_true,dite_false,Φe,Φd,decide_eq_true_eq,decide_eq_false_iff_not,Φf,Φh,Φg,Φj,beq_self_eq_true,Φr,Φs,Φt,Φl,Φm,eq_self,hP,h7_1,h7_20]
              first | done | rfl | (rw [hg]; rfl) | simp [hg]
            · rfl
            · trivial
        · intro ss T8 L8 hE8 hI
          obtain ⟨h8_25, hL8, hinv⟩ := hI
          replace hL8 := hL8.symm
          subst hL8
          clear h7_1 h7_20 T7
          clear hE8
          refine QX.done ?_
          simp (maxSteps := 1000000) only [ΦU,Φy,Φz,ΦI,ev,Φi,Φu,Φn,Φo,Φx,Φw,Φa,Φp,reduceIte,reduceCtorEq,if_true,if_false,Φq,Φk,Φb,Φc,true_and,and_true,false_and,and_false,true_implies,forall_const,false_implies,ne_eq,not_true_eq_false,not_false_eq_true,decide_true,decide_false,Φv,and_self,true_or,or_true,dite_true,dite_false,Φe,Φd,decide_eq_true_eq,decide_eq_false_iff_not,Φf,Φh,Φg,Φj,beq_self_eq_true,Φr,Φs,Φt,Φl,Φm,eq_self,Ψx,Ψl,Ψm,VCops,VQops,Ψv,putVC,VC,VQ,ΦV,ΦW,ΦN,ΦO,ΦE,ΦF,ΦJ,List.getElem?_cons_zero,List.getElem?_cons_succ,List.getElem?_nil,List.getElem?_toArray,Ψc,Ψi,ΦP,ΦA,ΦB,ΦT,ΦM,ΦX,ΦK,ΦQ,ΦR,ΦY,ΦG,ΦH,ΦZ,ΦC,ΦD,Ψa,ΦL,Ψj,ΦS,Ψb,Ψd,Ψe,Ψg,Ψh,Ψn,exists_eq_left,exists_eq_left',exists_const,Ψs,Ψo,Ψp,hP,h8_25]
          refine hK2 _ _ ?_
          try clear hK2 K2
          refine SX.ret ?_
          simp only [Φi, Φu, Φn, Φo, Φx, Φw, Φa, if_true, if_false, reduceIte, retQ_ret]
          try simp only [res0,res1,res2,res3,ΦU,Φy,Φz,ΦI,ev,Φi,Φu,Φn,Φo,Φx,Φw,Φa,Φp,reduceIte,reduceCtorEq,if_true,if_false,Φq,Φk,Φb,Φc,true_and,and_true,false_and,and_false,true_implies,forall_const,false_implies,ne_eq,not_true_eq_false,not_false_eq_true,decide_true,decide_false,Φv,and_self,true_or,or_true,dite_true,dite_false,Φe,Φd,decide_eq_true_eq,decide_eq_false_iff_not,Φf,Φh,Φg,Φj,beq_self_eq_true,Φr,Φs,Φt,Φl,Φm,eq_self,hP,h8_25]
          exact ⟨_, L, (by first | exact Less.refl _ | exact Less.drop _ _ | exact Less.drops (Less.drop _ _) | exact Less.drops (Less.drops (Less.drop _ _)) | exact Less.drops (Less.drops (Less.drops (Less.drop _ _))) | exact Less.drops (Less.drops (Less.drops (Less.drops (Less.drop _ _))))), rfl, rfl, rfl⟩
set_option maxHeartbeats 1000000 in
set_option maxRecDepth 100000 in
theorem Takes_spec {Γ : Ctx} (hP : Γ.P = Tryd.prog) {L : Hp} {l c g : Int} {o : Bool} {code ad data port : Int} {rd wr own pulse : Bool} (S : SH Γ) :
    SCall Γ 30 #[(.agg #[.int .i64 l, .int .i64 c, .bool o, .int .i64 g]), (.agg #[.int .u8 code, .int .u16 ad, .bool rd, .bool wr, .bool own, .int .u8 data, .int .u8 port, .bool pulse])] L (fun v L' => v = .bool (tB l c o g code rd) ∧ L' = L) := by
  refine SCall.enter (n := 16) (res1 4) (hP ▸ Tryd.func30) rfl rfl (by simp) (res1_ok rfl) ?_
  refine SX.seq_k fun K1 hK1 => ?_
  refine SX.region ?_
  simp (maxSteps := 1000000) only [ΦU,Φy,Φz,ΦI,ev,Φi,Φu,Φn,Φo,Φx,Φw,Φa,Φp,reduceIte,reduceCtorEq,if_true,if_false,Φq,Φk,Φb,Φc,true_and,and_true,false_and,and_false,true_implies,forall_const,false_implies,ne_eq,not_true_eq_false,not_false_eq_true,decide_true,decide_false,Φv,and_self,true_or,or_true,dite_true,dite_false,Φe,Φd,decide_eq_true_eq,decide_eq_false_iff_not,Φf,Φh,Φg,Φj,beq_self_eq_true,Φr,Φs,Φt,Φl,Φm,eq_self,Ψx,Ψl,Ψm,VCops,VQops,Ψv,putVC,VC,VQ,ΦV,ΦW,ΦN,ΦO,ΦE,ΦF,ΦJ,List.getElem?_cons_zero,List.getElem?_cons_succ,List.getElem?_nil,List.getElem?_toArray,Ψc,Ψi,ΦP,ΦA,ΦB,ΦT,ΦM,ΦX,ΦK,ΦQ,ΦR,ΦY,ΦG,ΦH,ΦZ,ΦC,ΦD,Ψa,ΦL,Ψj,ΦS,Ψb,Ψd,Ψe,Ψg,Ψh,Ψn,exists_eq_left,exists_eq_left',exists_const,Ψs,Ψo,Ψp,cells_int,cells_bool,ΨB,Ψz,ΨD,cells_agg,oneB_nil,oneB_cons,one_int,one_bool,one_string,ΨE,one_slice,one_map,one_func,ΨF,ΨC,one_iface,cells_map,cells_func,ΨA,Ψy,ΨG,T.elA_24,T.lay_24,T.szA_24,T.zr_24,Tryd.underlying24,T.elA_49,T.lay_49,T.szA_49,T.zr_49,Tryd.underlying49,hP]
  intro bx bd
  refine hK1 _ _ ?_
  try clear hK1 K1
  refine SX.seq_k fun K2 hK2 => ?_
  refine SX.region_x ?_
  refine RX.live [2, 3] (fun T1 hT1 => ?_)
  simp only [ΨH,forall_mem_nil',ΦU,Φy,Φz,ΦI,ev,Φi,Φu,Φn,Φo,Φx,Φw,Φa,Φp,reduceIte,reduceCtorEq,if_true,if_false,Φq,Φk,Φb,Φc,true_and,and_true,false_and,and_false,true_implies,forall_const,false_implies,ne_eq,not_true_eq_false,not_false_eq_true,decide_true,decide_false,Φv,and_self,true_or,or_true,dite_true,dite_false,Φe,Φd,decide_eq_true_eq,decide_eq_false_iff_not,Φf,Φh,Φg,Φj,beq_self_eq_true,Φr,Φs,Φt,Φl,Φm,eq_self,hP] at hT1
  obtain ⟨h1_2, h1_3⟩ := hT1
  refine RX.join 7 (fun (ss : Unit) T L' => T 11 = .bool (wB l c o g && decide (code = 2)) ∧ T 3 = T1 3 ∧ L' = some (bd, .cells #[.int .u8 code, .int .u16 ad, .bool rd, .bool wr, .bool own, .int .u8 data, .int .u8 port, .bool pulse] 49 (0, 0)) :: some (bx, .cells #[.int .i64 l, .int .i64 c, .bool o, .int .i64 g] 24 (0, 0)) :: L ∧ (True)) (fun K3 hK3 => ?_) ?_
  · simp only [h1_3] at hK3
    simp (maxSteps := 1000000) only [ΦU,Φy,Φz,ΦI,ev,Φi,Φu,Φn,Φo,Φx,Φw,Φa,Φp,reduceIte,reduceCtorEq,if_true,if_false,Φq,Φk,Φb,Φc,true_and,and_true,false_and,and_false,true_implies,forall_const,false_implies,ne_eq,not_true_eq_false,not_false_eq_true,decide_true,decide_false,Φv,and_self,true_or,or_true,dite_true,dite_false,Φe,Φd,decide_eq_true_eq,decide_eq_false_iff_not,Φf,Φh,Φg,Φj,beq_self_eq_true,Φr,Φs,Φt,Φl,Φm,eq_self,Ψx,Ψl,Ψm,VCops,VQops,Ψv,putVC,VC,VQ,ΦV,ΦW,ΦN,ΦO,ΦE,ΦF,ΦJ,List.getElem?_cons_zero,List.getElem?_cons_succ,List.getElem?_nil,List.getElem?_toArray,Ψc,Ψi,ΦP,ΦA,ΦB,ΦT,ΦM,ΦX,ΦK,ΦQ,ΦR,ΦY,ΦG,ΦH,ΦZ,ΦC,ΦD,Ψa,ΦL,Ψj,ΦS,Ψb,Ψd,Ψe,Ψg,Ψh,Ψn,exists_eq_left,exists_eq_left',exists_const,Ψs,Ψo,Ψp,ld_ptr,loadVC,loadN,Ψu,Ψq,Ψw,Ψf,Ψr,Ψt,Ψk,T.elA_24,T.lay_24,T.szA_24,T.zr_24,Tryd.underlying24,qcall_f,call_f,len_slice,len_str,cap_slice,min_int,max_int,T.callable_48,fa_ptr,T.elA_49,T.lay_49,T.szA_49,T.zr_49,Tryd.underlying49,T.szA_5,T.zr_5,Tryd.underlying5,bin_eql,bin_eqlb,bin_eqls,bin_eqla,pick_bool,hP,h1_2,h1_3]
    repeat' (first | refine iteB (fun hg => ?_) (fun hg => ?_) | refine iteI (fun hg => ?_) (fun hg => ?_) | ((first | (refine SCall.mono (wants_spec hP S) ?_; rintro v_ L_ ⟨hv_, hL_⟩; rw [hv_, hL_]; clear hv_ hL_ v_ L_) | refine ⟨by omega, ?_⟩ | refine ⟨_, Cell.at 0 rfl rfl, _, Cell.at 0 rfl rfl, _, Cell.at 0 rfl rfl, _, Cell.at 0 rfl rfl, ?_⟩ | refine ⟨_, Cell.at 1 rfl rfl, _, Cell.at 1 rfl rfl, _, Cell.at 1 rfl rfl, _, Cell.at 1 rfl rfl, ?_⟩ | refine ⟨_, Cell.at 0 rfl rfl, ?_⟩ | refine ⟨_, Cell.at 1 rfl rfl, ?_⟩ | fail); try simp (maxSteps := 1000000) only [ΦU,Φy,Φz,ΦI,ev,Φi,Φu,Φn,Φo,Φx,Φw,Φa,Φp,reduceIte,reduceCtorEq,if_true,if_false,Φq,Φk,Φb,Φc,true_and,and_true,false_and,and_false,true_implies,forall_const,false_implies,ne_eq,not_true_eq_false,not_false_eq_true,decide_true,decide_false,Φv,and_self,true_or,or_true,dite_true,dite_false,Φe,Φd,decide_eq_true_eq,decide_eq_false_iff_not,Φf,Φh,Φg,Φj,beq_self_eq_true,Φr,Φs,Φt,Φl,Φm,eq_self,Ψx,Ψl,Ψm,VCops,VQops,Ψv,putVC,VC,VQ,ΦV,ΦW,ΦN,ΦO,ΦE,ΦF,ΦJ,List.getElem?_cons_zero,List.getElem?_cons_succ,List.getElem?_nil,List.getElem?_toArray,Ψc,Ψi,ΦP,ΦA,ΦB,ΦT,ΦM,ΦX,ΦK,ΦQ,ΦR,ΦY,ΦG,ΦH,ΦZ,ΦC,ΦD,Ψa,ΦL,Ψj,ΦS,Ψb,Ψd,Ψe,Ψg,Ψh,Ψn,exists_eq_left,exists_eq_left',exists_const,Ψs,Ψo,Ψp,ld_ptr,loadVC,loadN,Ψu,Ψq,Ψw,Ψf,Ψr,Ψt,Ψk,T.elA_24,T.lay_24,T.szA_24,T.zr_24,Tryd.underlying24,qcall_f,call_f,len_slice,len_str,cap_slice,min_int,max_int,T.callable_48,fa_ptr,T.elA_49,T.lay_49,T.szA_49,T.zr_49,Tryd.underlying49,T.szA_5,T.zr_5,Tryd.underlying5,bin_eql,bin_eqlb,bin_eqls,bin_eqla,pick_bool,hP,h1_2,h1_3]) | fail)
    all_goals
      refine hK3 () _ (some (bd, .cells #[.int .u8 code, .int .u16 ad, .bool rd, .bool wr, .bool own, .int .u8 data, .int .u8 port, .bool pulse] 49 (0, 0)) :: some (bx, .cells #[.int .i64 l, .int .i64 c, .bool o, .int .i64 g] 24 (0, 0)) :: L) _ (by first | exact Less.refl _ | exact Less.drop _ _ | exact Less.drops (Less.drop _ _) | exact Less.drops (Less.drops (Less.drop _ _)) | exact Less.drops (Less.drops (Less.drops (Less.drop _ _))) | exact Less.drops (Less.drops (Less.drops (Less.drops (Less.drop _ _))))) ?_
      try dsimp only
      refine ⟨?_, ?_, ?_, ?_⟩
      · simp (maxSteps := 1000000) only [ΦU,Φy,Φz,ΦI,ev,Φi,Φu,Φn,Φo,Φx,Φw,Φa,Φp,reduceIte,reduceCtorEq,if_true,if_false,Φq,Φk,Φb,Φc,true_and,and_true,false_and,and_false,true_implies,forall_const,false_implies,ne_eq,not_true_eq_false,not_false_eq_true,decide_true,decide_false,Φv,and_self,true_or,or_true,dite_true,dite_false,Φe,Φd,decide_eq_true_eq,decide_eq_false_iff_not,Φf,Φh,Φg,Φj,beq_self_eq_true,Φr,Φs,Φt,Φl,Φm,eq_self,hP,h1_2,h1_3]
        first | done | rfl | (rw [hg]; rfl) | simp [hg]
      · simp (maxSteps := 1000000) only [ΦU,Φy,Φz,ΦI,ev,Φi,Φu,Φn,Φo,Φx,Φw,Φa,Φp,reduceIte,reduceCtorEq,if_true,if_false,Φq,Φk,Φb,Φc,true_and,and_true,false_and,and_false,true_implies,forall_const,false_implies,ne_eq,not_true_eq_false,not_false_eq_true,decide_true,decide_false,Φv,and_self,true_or,or_true,dite_true,dite_false,Φe,Φd,decide_eq_true_eq,decide_eq_false_iff_not,Φf,Φh,Φg,Φj,beq_self_eq_true,Φr,Φs,Φt,Φl,Φm,eq_self,hP,h1_2,h1_3]
      · rfl
      · trivial
  · intro ss T2 L2 hI
    simp only [h1_3] at hI 
    obtain ⟨h2_11, h2_3, hL2, hinv⟩ := hI
    replace hL2 := hL2.symm
    subst hL2
    clear h1_2 h1_3 T1
    refine RX.live [3, 11] (fun T3 hT3 => ?_)
    simp only [ΨH,forall_mem_nil',ΦU,Φy,Φz,ΦI,ev,Φi,Φu,Φn,Φo,Φx,Φw,Φa,Φp,reduceIte,reduceCtorEq,if_true,if_false,Φq,Φk,Φb,Φc,true_and,and_true,false_and,and_false,true_implies,forall_const,false_implies,ne_eq,not_true_eq_false,not_false_eq_true,decide_true,decide_false,Φv,and_self,true_or,or_true,dite_true,dite_false,Φe,Φd,decide_eq_true_eq,decide_eq_false_iff_not,Φf,Φh,Φg,Φj,beq_self_eq_true,Φr,Φs,Φt,Φl,Φm,eq_self,hP,h2_11,h2_3] at hT3
    obtain ⟨h3_3, h3_11⟩ := hT3
    clear h2_11 h2_3 T2
    refine RX.join 4 (fun (ss : Unit) T L' => T 15 = .bool (wB l c o g && decide (code = 2) && rd) ∧ L' = some (bd, .cells #[.int .u8 code, .int .u16 ad, .bool rd, .bool wr, .bool own, .int .u8 data, .int .u8 port, .bool pulse] 49 (0, 0)) :: some (bx, .cells #[.int .i64 l, .int .i64 c, .bool o, .int .i64 g] 24 (0, 0)) :: L ∧ (True)) (fun K4 hK4 => ?_) ?_
    · simp (maxSteps := 1000000) only [ΦU,Φy,Φz,ΦI,ev,Φi,Φu,Φn,Φo,Φx,Φw,Φa,Φp,reduceIte,reduceCtorEq,if_true,if_false,Φq,Φk,Φb,Φc,true_and,and_true,false_and,and_false,true_implies,forall_const,false_implies,ne_eq,not_true_eq_false,not_false_eq_true,decide_true,decide_false,Φv,and_self,true_or,or_true,dite_true,dite_false,Φe,Φd,decide_eq_true_eq,decide_eq_false_iff_not,Φf,Φh,Φg,Φj,beq_self_eq_true,Φr,Φs,Φt,Φl,Φm,eq_self,Ψx,Ψl,Ψm,VCops,VQops,Ψv,putVC,VC,VQ,ΦV,ΦW,ΦN,ΦO,ΦE,ΦF,ΦJ,List.getElem?_cons_zero,List.getElem?_cons_succ,List.getElem?_nil,List.getElem?_toArray,Ψc,Ψi,ΦP,ΦA,ΦB,ΦT,ΦM,ΦX,ΦK,ΦQ,ΦR,ΦY,ΦG,ΦH,ΦZ,ΦC,ΦD,Ψa,ΦL,Ψj,ΦS,Ψb,Ψd,Ψe,Ψg,Ψh,Ψn,exists_eq_left,exists_eq_left',exists_const,Ψs,Ψo,Ψp,fa_ptr,Ψu,Ψq,Ψw,Ψf,Ψr,Ψt,Ψk,T.elA_49,T.lay_49,T.szA_49,T.zr_49,Tryd.underlying49,ld_ptr,loadVC,loadN,T.szA_4,T.zr_4,Tryd.underlying4,pick_bool,hP,h3_3,h3_11]
      repeat' (first | refine iteB (fun hg => ?_) (fun hg => ?_) | refine iteI (fun hg => ?_) (fun hg => ?_) | ((first | (refine SCall.mono (wants_spec hP S) ?_; rintro v_ L_ ⟨hv_, hL_⟩; rw [hv_, hL_]; clear hv_ hL_ v_ L_) | refine ⟨by omega, ?_⟩ | refine ⟨_, Cell.at 0 rfl rfl, ?_⟩ | refine ⟨_, Cell.at 1 rfl rfl, ?_⟩ | fail); try simp (maxSteps := 1000000) only [ΦU,Φy,Φz,ΦI,ev,Φi,Φu,Φn,Φo,Φx,Φw,Φa,Φp,reduceIte,reduceCtorEq,if_true,if_false,Φq,Φk,Φb,Φc,true_and,and_true,false_and,and_false,true_implies,forall_const,false_implies,ne_eq,not_true_eq_false,not_false_eq_true,decide_true,decide_false,Φv,and_self,true_or,or_true,dite_true,dite_false,Φe,Φd,decide_eq_true_eq,decide_eq_false_iff_not,Φf,Φh,Φg,Φj,beq_self_eq_true,Φr,Φs,Φt,Φl,Φm,eq_self,Ψx,Ψl,Ψm,VCops,VQops,Ψv,putVC,VC,VQ,ΦV,ΦW,ΦN,ΦO,ΦE,ΦF,ΦJ,List.getElem?_cons_zero,List.getElem?_cons_succ,List.getElem?_nil,List.getElem?_toArray,Ψc,Ψi,ΦP,ΦA,ΦB,ΦT,ΦM,ΦX,ΦK,ΦQ,ΦR,ΦY,ΦG,ΦH,ΦZ,ΦC,ΦD,Ψa,ΦL,Ψj,ΦS,Ψb,Ψd,Ψe,Ψg,Ψh,Ψn,exists_eq_left,exists_eq_left',exists_const,Ψs,Ψo,Ψp,fa_ptr,Ψu,Ψq,Ψw,Ψf,Ψr,Ψt,Ψk,T.elA_49,T.lay_49,T.szA_49,T.zr_49,Tryd.underlying49,ld_ptr,loadVC,loadN,T.szA_4,T.zr_4,Tryd.underlying4,pick_bool,hP,h3_3,h3_11]) | fail)
      all_goals
        refine hK4 () _ (some (bd, .cells #[.int .u8 code, .int .u16 ad, .bool rd, .bool wr, .bool own, .int .u8 data, .int .u8 port, .bool pulse] 49 (0, 0)) :: some (bx, .cells #[.int .i64 l, .int .i64 c, .bool o, .int .i64 g] 24 (0, 0)) :: L) _ (by first | exact Less.refl _ | exact Less.drop _ _ | exact Less.drops (Less.drop _ _) | exact Less.drops (Less.drops (Less.drop _ _)) | exact Less.drops (Less.drops (Less.drops (Less.drop _ _))) | exact Less.drops (Less.drops (Less.drops (Less.drops (Less.drop _ _))))) ?_
        try dsimp only
        refine ⟨?_, ?_, ?_⟩
        · simp (maxSteps := 1000000) only [ΦU,Φy,Φz,ΦI,ev,Φi,Φu,Φn,Φo,Φx,Φw,Φa,Φp,reduceIte,reduceCtorEq,if_true,if_false,Φq,Φk,Φb,Φc,true_and,and_true,false_and,and_false,true_implies,forall_const,false_implies,ne_eq,not_true_eq_false,not_false_eq_true,decide_true,decide_false,Φv,and_self,true_or,or_true,dite_true,dite_false,Φe,Φd,decide_eq_true_eq,decide_eq_false_iff_not,Φf,Φh,Φg,Φj,beq_self_eq_true,Φr,Φs,Φt,Φl,Φm,eq_self,hP,h3_3,h3_11]
          first | done | rfl | (rw [hg]; rfl) | simp [hg]
        · rfl
        · trivial
    · intro ss T4 L4 hI
      obtain ⟨h4_15, hL4, hinv⟩ := hI
      replace hL4 := hL4.symm
      subst hL4
      clear h3_3 h3_11 T3
      refine RX.done ?_
      simp (maxSteps := 1000000) only [ΦU,Φy,Φz,ΦI,ev,Φi,Φu,Φn,Φo,Φx,Φw,Φa,Φp,reduceIte,reduceCtorEq,if_true,if_false,Φq,Φk,Φb,Φc,true_and,and_true,false_and,and_false,true_implies,forall_const,false_implies,ne_eq,not_true_eq_false,not_false_eq_true,decide_true,decide_false,Φv,and_self,true_or,or_true,dite_true,dite_false,Φe,Φd,decide_eq_true_eq,decide_eq_false_iff_not,Φf,Φh,Φg,Φj,beq_self_eq_true,Φr,Φs,Φt,Φl,Φm,eq_self,Ψx,Ψl,Ψm,VCops,VQops,Ψv,putVC,VC,VQ,ΦV,ΦW,ΦN,ΦO,ΦE,ΦF,ΦJ,List.getElem?_cons_zero,List.getElem?_cons_succ,List.getElem?_nil,List.getElem?_toArray,Ψc,Ψi,ΦP,ΦA,ΦB,ΦT,ΦM,ΦX,ΦK,ΦQ,ΦR,ΦY,ΦG,ΦH,ΦZ,ΦC,ΦD,Ψa,ΦL,Ψj,ΦS,Ψb,Ψd,Ψe,Ψg,Ψh,Ψn,exists_eq_left,exists_eq_left',exists_const,Ψs,Ψo,Ψp,hP,h4_15]
      refine hK2 _ _ ?_
      try clear hK2 K2
      refine SX.ret ?_
      simp only [Φi, Φu, Φn, Φo, Φx, Φw, Φa, if_true, if_false, reduceIte, retQ_ret]
      try simp only [res0,res1,res2,res3,ΦU,Φy,Φz,ΦI,ev,Φi,Φu,Φn,Φo,Φx,Φw,Φa,Φp,reduceIte,reduceCtorEq,if_true,if_false,Φq,Φk,Φb,Φc,true_and,and_true,false_and,and_false,true_implies,forall_const,false_implies,ne_eq,not_true_eq_false,not_false_eq_true,decide_true,decide_false,Φv,and_self,true_or,or_true,dite_true,dite_false,Φe,Φd,decide_eq_true_eq,decide_eq_false_iff_not,Φf,Φh,Φg,Φj,beq_self_eq_true,Φr,Φs,Φt,Φl,Φm,eq_self,hP,h4_15]
      exact ⟨_, L, (by first | exact Less.refl _ | exact Less.drop _ _ | exact Less.drops (Less.drop _ _) | exact Less.drops (Less.drops (Less.drop _ _)) | exact Less.drops (Less.drops (Less.drops (Less.drop _ _))) | exact Less.drops (Less.drops (Less.drops (Less.drops (Less.drop _ _))))), rfl, rfl, rfl⟩
theorem tm262 {l : Int} (h0 : 0 ≤ l) (h1 : l < 262) : Int.tmod (l + 1) 262 = if l + 1 = 262 then 0 else l + 1 := by
  rw [Int.tmod_eq_emod_of_nonneg (by omega)]
  split <;> omega
set_option maxHeartbeats 1000000 in
set_option maxRecDepth 100000 in
theorem Step_spec {Γ : Ctx} (hP : Γ.P = Tryd.prog) {L : Hp} {l c g : Int} {o : Bool} {code ad data port : Int} {rd wr own pulse : Bool} {m : Int} (S : SH Γ) :
    SCall Γ 31 #[(.agg #[.int .i64 l, .int .i64 c, .bool o, .int .i64 g]), (.agg #[.int .u8 code, .int .u16 ad, .bool rd, .bool wr, .bool own, .int .u8 data, .int .u8 port, .bool pulse]), (.int .u8 m)] L (fun v L' => v = rv (step l c o g code port rd wr m) ∧ L' = L) := by
  refine SCall.enter (n := 57) (resX Γ [.cell 6 24]) (hP ▸ Tryd.func31) rfl rfl (by simp) (resX_ok rfl) ?_
  refine SX.seq_k fun K1 hK1 => ?_
  refine SX.region ?_
  simp (maxSteps := 1000000) only [ΦU,Φy,Φz,ΦI,ev,Φi,Φu,Φn,Φo,Φx,Φw,Φa,Φp,reduceIte,reduceCtorEq,if_true,if_false,Φq,Φk,Φb,Φc,true_and,and_true,false_and,and_false,true_implies,forall_const,false_implies,ne_eq,not_true_eq_false,not_false_eq_true,decide_true,decide_false,Φv,and_self,true_or,or_true,dite_true,dite_false,Φe,Φd,decide_eq_true_eq,decide_eq_false_iff_not,Φf,Φh,Φg,Φj,beq_self_eq_true,Φr,Φs,Φt,Φl,Φm,eq_self,Ψx,Ψl,Ψm,VCops,VQops,Ψv,putVC,VC,VQ,ΦV,ΦW,ΦN,ΦO,ΦE,ΦF,ΦJ,List.getElem?_cons_zero,List.getElem?_cons_succ,List.getElem?_nil,List.getElem?_toArray,Ψc,Ψi,ΦP,ΦA,ΦB,ΦT,ΦM,ΦX,ΦK,ΦQ,ΦR,ΦY,ΦG,ΦH,ΦZ,ΦC,ΦD,Ψa,ΦL,Ψj,ΦS,Ψb,Ψd,Ψe,Ψg,Ψh,Ψn,exists_eq_left,exists_eq_left',exists_const,Ψs,Ψo,Ψp,cells_int,cells_bool,ΨB,Ψz,ΨD,cells_agg,oneB_nil,oneB_cons,one_int,one_bool,one_string,ΨE,one_slice,one_map,one_func,ΨF,ΨC,one_iface,cells_map,cells_func,ΨA,Ψy,ΨG,T.elA_24,T.lay_24,T.szA_24,T.zr_24,Tryd.underlying24,T.elA_49,T.lay_49,T.szA_49,T.zr_49,Tryd.underlying49,hP]
  intro bx bd br
  refine hK1 _ _ ?_
  try clear hK1 K1
  refine SX.seq_k fun K2 hK2 => ?_
  refine SX.seq_k fun K3 hK3 => ?_
  refine SX.region_x ?_
  refine RX.live [2, 3, 4, 6] (fun T1 hT1 => ?_)
  simp only [ΨH,forall_mem_nil',ΦU,Φy,Φz,ΦI,ev,Φi,Φu,Φn,Φo,Φx,Φw,Φa,Φp,reduceIte,reduceCtorEq,if_true,if_false,Φq,Φk,Φb,Φc,true_and,and_true,false_and,and_false,true_implies,forall_const,false_implies,ne_eq,not_true_eq_false,not_false_eq_true,decide_true,decide_false,Φv,and_self,true_or,or_true,dite_true,dite_false,Φe,Φd,decide_eq_true_eq,decide_eq_false_iff_not,Φf,Φh,Φg,Φj,beq_self_eq_true,Φr,Φs,Φt,Φl,Φm,eq_self,hP] at hT1
  obtain ⟨h1_2, h1_3, h1_4, h1_6⟩ := hT1
  refine RX.join 7 (fun (ss : Unit) T L' => T 13 = .bool (!okB l c g || decide (3 < m)) ∧ T 2 = T1 2 ∧ T 3 = T1 3 ∧ T 4 = T1 4 ∧ T 6 = T1 6 ∧ L' = some (br, .cells #[.int .i64 0, .int .i64 0, .bool false, .int .i64 0] 24 (0, 0)) :: some (bd, .cells #[.int .u8 code, .int .u16 ad, .bool rd, .bool wr, .bool own, .int .u8 data, .int .u8 port, .bool pulse] 49 (0, 0)) :: some (bx, .cells #[.int .i64 l, .int .i64 c, .bool o, .int .i64 g] 24 (0, 0)) :: L ∧ (True)) (fun K4 hK4 => ?_) ?_
  · simp only [h1_2, h1_3, h1_4, h1_6] at hK4
    simp (maxSteps := 1000000) only [ΦU,Φy,Φz,ΦI,ev,Φi,Φu,Φn,Φo,Φx,Φw,Φa,Φp,reduceIte,reduceCtorEq,if_true,if_false,Φq,Φk,Φb,Φc,true_and,and_true,false_and,and_false,true_implies,forall_const,false_implies,ne_eq,not_true_eq_false,not_false_eq_true,decide_true,decide_false,Φv,and_self,true_or,or_true,dite_true,dite_false,Φe,Φd,decide_eq_true_eq,decide_eq_false_iff_not,Φf,Φh,Φg,Φj,beq_self_eq_true,Φr,Φs,Φt,Φl,Φm,eq_self,Ψx,Ψl,Ψm,VCops,VQops,Ψv,putVC,VC,VQ,ΦV,ΦW,ΦN,ΦO,ΦE,ΦF,ΦJ,List.getElem?_cons_zero,List.getElem?_cons_succ,List.getElem?_nil,List.getElem?_toArray,Ψc,Ψi,ΦP,ΦA,ΦB,ΦT,ΦM,ΦX,ΦK,ΦQ,ΦR,ΦY,ΦG,ΦH,ΦZ,ΦC,ΦD,Ψa,ΦL,Ψj,ΦS,Ψb,Ψd,Ψe,Ψg,Ψh,Ψn,exists_eq_left,exists_eq_left',exists_const,Ψs,Ψo,Ψp,ld_ptr,loadVC,loadN,Ψu,Ψq,Ψw,Ψf,Ψr,Ψt,Ψk,T.elA_24,T.lay_24,T.szA_24,T.zr_24,Tryd.underlying24,qcall_f,call_f,len_slice,len_str,cap_slice,min_int,max_int,T.callable_27,bin_neq,bin_neqb,bin_neqs,bin_neqa,T.szA_31,T.zr_31,Tryd.underlying31,bin_gtr,pick_bool,hP,h1_2,h1_3,h1_4,h1_6,chk_zero]
    repeat' (first | refine iteB (fun hg => ?_) (fun hg => ?_) | refine iteI (fun hg => ?_) (fun hg => ?_) | ((first | (refine SCall.mono (Check_spec hP S) ?_; rintro v_ L_ ⟨hv_, hL_⟩; rw [hv_, hL_]; clear hv_ hL_ v_ L_) | refine ⟨by omega, ?_⟩ | refine ⟨_, Cell.at 0 rfl rfl, _, Cell.at 0 rfl rfl, _, Cell.at 0 rfl rfl, _, Cell.at 0 rfl rfl, ?_⟩ | refine ⟨_, Cell.at 1 rfl rfl, _, Cell.at 1 rfl rfl, _, Cell.at 1 rfl rfl, _, Cell.at 1 rfl rfl, ?_⟩ | refine ⟨_, Cell.at 2 rfl rfl, _, Cell.at 2 rfl rfl, _, Cell.at 2 rfl rfl, _, Cell.at 2 rfl rfl, ?_⟩ | refine ⟨_, Cell.at 0 rfl rfl, ?_⟩ | refine ⟨_, Cell.at 1 rfl rfl, ?_⟩ | refine ⟨_, Cell.at 2 rfl rfl, ?_⟩ | fail); try simp (maxSteps := 1000000) only [ΦU,Φy,Φz,ΦI,ev,Φi,Φu,Φn,Φo,Φx,Φw,Φa,Φp,reduceIte,reduceCtorEq,if_true,if_false,Φq,Φk,Φb,Φc,true_and,and_true,false_and,and_false,true_implies,forall_const,false_implies,ne_eq,not_true_eq_false,not_false_eq_true,decide_true,decide_false,Φv,and_self,true_or,or_true,dite_true,dite_false,Φe,Φd,decide_eq_true_eq,decide_eq_false_iff_not,Φf,Φh,Φg,Φj,beq_self_eq_true,Φr,Φs,Φt,Φl,Φm,eq_self,Ψx,Ψl,Ψm,VCops,VQops,Ψv,putVC,VC,VQ,ΦV,ΦW,ΦN,ΦO,ΦE,ΦF,ΦJ,List.getElem?_cons_zero,List.getElem?_cons_succ,List.getElem?_nil,List.getElem?_toArray,Ψc,Ψi,ΦP,ΦA,ΦB,ΦT,ΦM,ΦX,ΦK,ΦQ,ΦR,ΦY,ΦG,ΦH,ΦZ,ΦC,ΦD,Ψa,ΦL,Ψj,ΦS,Ψb,Ψd,Ψe,Ψg,Ψh,Ψn,exists_eq_left,exists_eq_left',exists_const,Ψs,Ψo,Ψp,ld_ptr,loadVC,loadN,Ψu,Ψq,Ψw,Ψf,Ψr,Ψt,Ψk,T.elA_24,T.lay_24,T.szA_24,T.zr_24,Tryd.underlying24,qcall_f,call_f,len_slice,len_str,cap_slice,min_int,max_int,T.callable_27,bin_neq,bin_neqb,bin_neqs,bin_neqa,T.szA_31,T.zr_31,Tryd.underlying31,bin_gtr,pick_bool,hP,h1_2,h1_3,h1_4,h1_6,chk_zero]) | fail)
    all_goals
      refine hK4 () _ (some (br, .cells #[.int .i64 0, .int .i64 0, .bool false, .int .i64 0] 24 (0, 0)) :: some (bd, .cells #[.int .u8 code, .int .u16 ad, .bool rd, .bool wr, .bool own, .int .u8 data, .int .u8 port, .bool pulse] 49 (0, 0)) :: some (bx, .cells #[.int .i64 l, .int .i64 c, .bool o, .int .i64 g] 24 (0, 0)) :: L) _ (by first | exact Less.refl _ | exact Less.drop _ _ | exact Less.drops (Less.drop _ _) | exact Less.drops (Less.drops (Less.drop _ _)) | exact Less.drops (Less.drops (Less.drops (Less.drop _ _))) | exact Less.drops (Less.drops (Less.drops (Less.drops (Less.drop _ _))))) ?_
      try dsimp only
      refine ⟨?_, ?_, ?_, ?_, ?_, ?_, ?_⟩
      · simp (maxSteps := 1000000) only [ΦU,Φy,Φz,ΦI,ev,Φi,Φu,Φn,Φo,Φx,Φw,Φa,Φp,reduceIte,reduceCtorEq,if_true,if_false,Φq,Φk,Φb,Φc,true_and,and_true,false_and,and_false,true_implies,forall_const,false_implies,ne_eq,not_true_eq_false,not_false_eq_true,decide_true,decide_false,Φv,and_self,true_or,or_true,dite_true,dite_false,Φe,Φd,decide_eq_true_eq,decide_eq_false_iff_not,Φf,Φh,Φg,Φj,beq_self_eq_true,Φr,Φs,Φt,Φl,Φm,eq_self,hP,h1_2,h1_3,h1_4,h1_6]
        first | done | simp [*]
      · simp (maxSteps := 1000000) only [ΦU,Φy,Φz,ΦI,ev,Φi,Φu,Φn,Φo,Φx,Φw,Φa,Φp,reduceIte,reduceCtorEq,if_true,if_false,Φq,Φk,Φb,Φc,true_and,and_true,false_and,and_false,true_implies,forall_const,false_implies,ne_eq,not_true_eq_false,not_false_eq_true,decide_true,decide_false,Φv,and_self,true_or,or_true,dite_true,dite_false,Φe,Φd,decide_eq_true_eq,decide_eq_false_iff_not,Φf,Φh,Φg,Φj,beq_self_eq_true,Φr,Φs,Φt,Φl,Φm,eq_self,hP,h1_2,h1_3,h1_4,h1_6]
      · simp (maxSteps := 1000000) only [ΦU,Φy,Φz,ΦI,ev,Φi,Φu,Φn,Φo,Φx,Φw,Φa,Φp,reduceIte,reduceCtorEq,if_true,if_false,Φq,Φk,Φb,Φc,true_and,and_true,false_and,and_false,true_implies,forall_const,false_implies,ne_eq,not_true_eq_false,not_false_eq_true,decide_true,decide_false,Φv,and_self,true_or,or_true,dite_true,dite_false,Φe,Φd,decide_eq_true_eq,decide_eq_false_iff_not,Φf,Φh,Φg,Φj,beq_self_eq_true,Φr,Φs,Φt,Φl,Φm,eq_self,hP,h1_2,h1_3,h1_4,h1_6]
      · simp (maxSteps := 1000000) only [ΦU,Φy,Φz,ΦI,ev,Φi,Φu,Φn,Φo,Φx,Φw,Φa,Φp,reduceIte,reduceCtorEq,if_true,if_false,Φq,Φk,Φb,Φc,true_and,and_true,false_and,and_false,true_implies,forall_const,false_implies,ne_eq,not_true_eq_false,not_false_eq_true,decide_true,decide_false,Φv,and_self,true_or,or_true,dite_true,dite_false,Φe,Φd,decide_eq_true_eq,decide_eq_false_iff_not,Φf,Φh,Φg,Φj,beq_self_eq_true,Φr,Φs,Φt,Φl,Φm,eq_self,hP,h1_2,h1_3,h1_4,h1_6]
      · simp (maxSteps := 1000000) only [ΦU,Φy,Φz,ΦI,ev,Φi,Φu,Φn,Φo,Φx,Φw,Φa,Φp,reduceIte,reduceCtorEq,if_true,if_false,Φq,Φk,Φb,Φc,true_and,and_true,false_and,and_false,true_implies,forall_const,false_implies,ne_eq,not_true_eq_false,not_false_eq_true,decide_true,decide_false,Φv,and_self,true_or,or_true,dite_true,dite_false,Φe,Φd,decide_eq_true_eq,decide_eq_false_iff_not,Φf,Φh,Φg,Φj,beq_self_eq_true,Φr,Φs,Φt,Φl,Φm,eq_self,hP,h1_2,h1_3,h1_4,h1_6]
      · rfl
      · trivial
  · intro ss T2 L2 hI
    simp only [h1_2, h1_3, h1_4, h1_6] at hI 
    obtain ⟨h2_13, h2_2, h2_3, h2_4, h2_6, hL2, hinv⟩ := hI
    replace hL2 := hL2.symm
    subst hL2
    clear h1_2 h1_3 h1_4 h1_6 T1
    refine RX.done ?_
    simp (maxSteps := 1000000) only [ΦU,Φy,Φz,ΦI,ev,Φi,Φu,Φn,Φo,Φx,Φw,Φa,Φp,reduceIte,reduceCtorEq,if_true,if_false,Φq,Φk,Φb,Φc,true_and,and_true,false_and,and_false,true_implies,forall_const,false_implies,ne_eq,not_true_eq_false,not_false_eq_true,decide_true,decide_false,Φv,and_self,true_or,or_true,dite_true,dite_false,Φe,Φd,decide_eq_true_eq,decide_eq_false_iff_not,Φf,Φh,Φg,Φj,beq_self_eq_true,Φr,Φs,Φt,Φl,Φm,eq_self,Ψx,Ψl,Ψm,VCops,VQops,Ψv,putVC,VC,VQ,ΦV,ΦW,ΦN,ΦO,ΦE,ΦF,ΦJ,List.getElem?_cons_zero,List.getElem?_cons_succ,List.getElem?_nil,List.getElem?_toArray,Ψc,Ψi,ΦP,ΦA,ΦB,ΦT,ΦM,ΦX,ΦK,ΦQ,ΦR,ΦY,ΦG,ΦH,ΦZ,ΦC,ΦD,Ψa,ΦL,Ψj,ΦS,Ψb,Ψd,Ψe,Ψg,Ψh,Ψn,exists_eq_left,exists_eq_left',exists_const,Ψs,Ψo,Ψp,hP,h2_13,h2_2,h2_3,h2_4,h2_6]
    refine hK3 _ _ ?_
    try clear hK3 K3
    refine SX.cond_k fun X5 Y5 hX5 hY5 => ?_
    simp (maxSteps := 1000000) only [ΦU,Φy,Φz,ΦI,ev,Φi,Φu,Φn,Φo,Φx,Φw,Φa,Φp,reduceIte,reduceCtorEq,if_true,if_false,Φq,Φk,Φb,Φc,true_and,and_true,false_and,and_false,true_implies,forall_const,false_implies,ne_eq,not_true_eq_false,not_false_eq_true,decide_true,decide_false,Φv,and_self,true_or,or_true,dite_true,dite_false,Φe,Φd,decide_eq_true_eq,decide_eq_false_iff_not,Φf,Φh,Φg,Φj,beq_self_eq_true,Φr,Φs,Φt,Φl,Φm,eq_self,hP,h2_13,h2_2,h2_3,h2_4,h2_6,condVC]
    refine ⟨fun hc13 => hX5 ?_, fun hc13 => hY5 ?_⟩
    · clear hX5 hY5 X5 Y5
      have hn : ¬ (okB l c g = true ∧ m ≤ 3) := by rintro ⟨h1, h2⟩; rw [h1, decide_eq_false (by omega)] at hc13; exact absurd hc13 (by decide)
      refine SX.seq_k fun K6 hK6 => ?_
      refine SX.region ?_
      simp (maxSteps := 1000000) only [ΦU,Φy,Φz,ΦI,ev,Φi,Φu,Φn,Φo,Φx,Φw,Φa,Φp,reduceIte,reduceCtorEq,if_true,if_false,Φq,Φk,Φb,Φc,true_and,and_true,false_and,and_false,true_implies,forall_const,false_implies,ne_eq,not_true_eq_false,not_false_eq_true,decide_true,decide_false,Φv,and_self,true_or,or_true,dite_true,dite_false,Φe,Φd,decide_eq_true_eq,decide_eq_false_iff_not,Φf,Φh,Φg,Φj,beq_self_eq_true,Φr,Φs,Φt,Φl,Φm,eq_self,Ψx,Ψl,Ψm,VCops,VQops,Ψv,putVC,VC,VQ,ΦV,ΦW,ΦN,ΦO,ΦE,ΦF,ΦJ,List.getElem?_cons_zero,List.getElem?_cons_succ,List.getElem?_nil,List.getElem?_toArray,Ψc,Ψi,ΦP,ΦA,ΦB,ΦT,ΦM,ΦX,ΦK,ΦQ,ΦR,ΦY,ΦG,ΦH,ΦZ,ΦC,ΦD,Ψa,ΦL,Ψj,ΦS,Ψb,Ψd,Ψe,Ψg,Ψh,Ψn,exists_eq_left,exists_eq_left',exists_const,Ψs,Ψo,Ψp,partVC,buildVC,placeL,fillL,setN,cells_int,cells_bool,ΨB,Ψz,ΨD,cells_agg,oneB_nil,oneB_cons,one_int,one_bool,one_string,ΨE,one_slice,one_map,one_func,ΨF,ΨC,one_iface,cells_map,cells_func,ΨA,Ψy,ΨG,T.elA_24,T.lay_24,T.szA_24,T.zr_24,Tryd.underlying24,st_ptr,storeVC,Ψu,Ψq,Ψw,Ψf,Ψr,Ψt,Ψk,hP,h2_13,h2_2,h2_3,h2_4,h2_6]
      refine ⟨0, _, _, _, rfl, by first | decide | simp, .inr (by first | decide | simp), ?_⟩
      try simp (maxSteps := 1000000) only [ΦU,Φy,Φz,ΦI,ev,Φi,Φu,Φn,Φo,Φx,Φw,Φa,Φp,reduceIte,reduceCtorEq,if_true,if_false,Φq,Φk,Φb,Φc,true_and,and_true,false_and,and_false,true_implies,forall_const,false_implies,ne_eq,not_true_eq_false,not_false_eq_true,decide_true,decide_false,Φv,and_self,true_or,or_true,dite_true,dite_false,Φe,Φd,decide_eq_true_eq,decide_eq_false_iff_not,Φf,Φh,Φg,Φj,beq_self_eq_true,Φr,Φs,Φt,Φl,Φm,eq_self,Ψx,Ψl,Ψm,VCops,VQops,Ψv,putVC,VC,VQ,ΦV,ΦW,ΦN,ΦO,ΦE,ΦF,ΦJ,List.getElem?_cons_zero,List.getElem?_cons_succ,List.getElem?_nil,List.getElem?_toArray,Ψc,Ψi,ΦP,ΦA,ΦB,ΦT,ΦM,ΦX,ΦK,ΦQ,ΦR,ΦY,ΦG,ΦH,ΦZ,ΦC,ΦD,Ψa,ΦL,Ψj,ΦS,Ψb,Ψd,Ψe,Ψg,Ψh,Ψn,exists_eq_left,exists_eq_left',exists_const,Ψs,Ψo,Ψp,partVC,buildVC,placeL,fillL,setN,cells_int,cells_bool,ΨB,Ψz,ΨD,cells_agg,oneB_nil,oneB_cons,one_int,one_bool,one_string,ΨE,one_slice,one_map,one_func,ΨF,ΨC,one_iface,cells_map,cells_func,ΨA,Ψy,ΨG,T.elA_24,T.lay_24,T.szA_24,T.zr_24,Tryd.underlying24,st_ptr,storeVC,Ψu,Ψq,Ψw,Ψf,Ψr,Ψt,Ψk,hP,h2_13,h2_2,h2_3,h2_4,h2_6]
      refine hK6 _ _ ?_
      try clear hK6 K6
      refine SX.ret ?_
      simp only [Φi, Φu, Φn, Φo, Φx, Φw, Φa, if_true, if_false, reduceIte, retQ_ret]
      try simp only [res0,res1,res2,res3,resX,resK,oneOr,ld_ptr,loadVC,loadN,ΦT,ΦM,Ψb,Ψg,Ψh,Ψu,Ψq,Ψw,T.elA_24,T.lay_24,T.szA_24,T.zr_24,Tryd.underlying24,ΦU,Φy,Φz,ΦI,ev,Φi,Φu,Φn,Φo,Φx,Φw,Φa,Φp,reduceIte,reduceCtorEq,if_true,if_false,Φq,Φk,Φb,Φc,true_and,and_true,false_and,and_false,true_implies,forall_const,false_implies,ne_eq,not_true_eq_false,not_false_eq_true,decide_true,decide_false,Φv,and_self,true_or,or_true,dite_true,dite_false,Φe,Φd,decide_eq_true_eq,decide_eq_false_iff_not,Φf,Φh,Φg,Φj,beq_self_eq_true,Φr,Φs,Φt,Φl,Φm,eq_self,hP,h2_13,h2_2,h2_3,h2_4,h2_6]
      refine ⟨_, L, (by first | exact Less.refl _ | exact Less.drop _ _ | exact Less.drops (Less.drop _ _) | exact Less.drops (Less.drops (Less.drop _ _)) | exact Less.drops (Less.drops (Less.drops (Less.drop _ _))) | exact Less.drops (Less.drops (Less.drops (Less.drops (Less.drop _ _))))), ⟨_, Cell.at 0 rfl rfl, _, Cell.at 0 rfl rfl, _, Cell.at 0 rfl rfl, _, Cell.at 0 rfl rfl, rfl⟩, ?_, rfl⟩
      rw [step, if_neg hn]
    · clear hX5 hY5 X5 Y5
      obtain ⟨hok, hm3⟩ : okB l c g = true ∧ m ≤ 3 := by simpa using hc13
      have hk := of_decide_eq_true hok
      have w1 : IntKind.i64.wrap (g + 1) = g + 1 := w64 (by omega)
      have w2 : IntKind.i64.wrap (c + 1) = c + 1 := w64 (by omega)
      have w3 : IntKind.i64.wrap (l + 1) = l + 1 := w64 (by omega)
      refine SX.skip ?_
      simp only [Φi, Φu, Φn, Φo, Φx, Φw, Φa, if_true, if_false, reduceIte]
      refine hK2 _ _ ?_
      try clear hK2 K2
      refine SX.live [2, 3, 4, 6] (fun T3 hT3 => ?_)
      simp only [ΨH,forall_mem_nil',ΦU,Φy,Φz,ΦI,ev,Φi,Φu,Φn,Φo,Φx,Φw,Φa,Φp,reduceIte,reduceCtorEq,if_true,if_false,Φq,Φk,Φb,Φc,true_and,and_true,false_and,and_false,true_implies,forall_const,false_implies,ne_eq,not_true_eq_false,not_false_eq_true,decide_true,decide_false,Φv,and_self,true_or,or_true,dite_true,dite_false,Φe,Φd,decide_eq_true_eq,decide_eq_false_iff_not,Φf,Φh,Φg,Φj,beq_self_eq_true,Φr,Φs,Φt,Φl,Φm,eq_self,hP,h2_13,h2_2,h2_3,h2_4,h2_6] at hT3
      obtain ⟨h3_2, h3_3, h3_4, h3_6⟩ := hT3
      clear h2_13 h2_2 h2_3 h2_4 h2_6 T2
      refine SX.join (fun (ss : (Int)) T L' => (fun (g1 : Int) => T 2 = T3 2 ∧ T 3 = T3 3 ∧ T 4 = T3 4 ∧ T 6 = T3 6 ∧ L' = some (br, .cells #[.int .i64 0, .int .i64 0, .bool false, .int .i64 0] 24 (0, 0)) :: some (bd, .cells #[.int .u8 code, .int .u16 ad, .bool rd, .bool wr, .bool own, .int .u8 data, .int .u8 port, .bool pulse] 49 (0, 0)) :: some (bx, .cells #[.int .i64 l, .int .i64 c, .bool o, .int .i64 g1] 24 (0, 0)) :: L ∧ (g1 = if tB l c o g code rd = true then g + 1 else g)) (ss)) (fun K7 hK7 => ?_) ?_
      · simp only [h3_2, h3_3, h3_4, h3_6] at hK7
        refine SX.seq_k fun K8 hK8 => ?_
        refine SX.region_x ?_
        refine RX.live [2, 3, 4, 6] (fun T4 hT4 => ?_)
        simp only [ΨH,forall_mem_nil',ΦU,Φy,Φz,ΦI,ev,Φi,Φu,Φn,Φo,Φx,Φw,Φa,Φp,reduceIte,reduceCtorEq,if_true,if_false,Φq,Φk,Φb,Φc,true_and,and_true,false_and,and_false,true_implies,forall_const,false_implies,ne_eq,not_true_eq_false,not_false_eq_true,decide_true,decide_false,Φv,and_self,true_or,or_true,dite_true,dite_false,Φe,Φd,decide_eq_true_eq,decide_eq_false_iff_not,Φf,Φh,Φg,Φj,beq_self_eq_true,Φr,Φs,Φt,Φl,Φm,eq_self,hP,h3_2,h3_3,h3_4,h3_6] at hT4
        obtain ⟨h4_2, h4_3, h4_4, h4_6⟩ := hT4
        clear h3_2 h3_3 h3_4 h3_6 T3
        refine RX.join 3 (fun (ss : Unit) T L' => T 17 = .bool (tB l c o g code rd) ∧ T 2 = T4 2 ∧ T 3 = T4 3 ∧ T 4 = T4 4 ∧ T 6 = T4 6 ∧ L' = some (br, .cells #[.int .i64 0, .int .i64 0, .bool false, .int .i64 0] 24 (0, 0)) :: some (bd, .cells #[.int .u8 code, .int .u16 ad, .bool rd, .bool wr, .bool own, .int .u8 data, .int .u8 port, .bool pulse] 49 (0, 0)) :: some (bx, .cells #[.int .i64 l, .int .i64 c, .bool o, .int .i64 g] 24 (0, 0)) :: L ∧ (True)) (fun K9 hK9 => ?_) ?_
        · simp only [h4_2, h4_3, h4_4, h4_6] at hK9
          simp (maxSteps := 1000000) only [ΦU,Φy,Φz,ΦI,ev,Φi,Φu,Φn,Φo,Φx,Φw,Φa,Φp,reduceIte,reduceCtorEq,if_true,if_false,Φq,Φk,Φb,Φc,true_and,and_true,false_and,and_false,true_implies,forall_const,false_implies,ne_eq,not_true_eq_false,not_false_eq_true,decide_true,decide_false,Φv,and_self,true_or,or_true,dite_true,dite_false,Φe,Φd,decide_eq_true_eq,decide_eq_false_iff_not,Φf,Φh,Φg,Φj,beq_self_eq_true,Φr,Φs,Φt,Φl,Φm,eq_self,Ψx,Ψl,Ψm,VCops,VQops,Ψv,putVC,VC,VQ,ΦV,ΦW,ΦN,ΦO,ΦE,ΦF,ΦJ,List.getElem?_cons_zero,List.getElem?_cons_succ,List.getElem?_nil,List.getElem?_toArray,Ψc,Ψi,ΦP,ΦA,ΦB,ΦT,ΦM,ΦX,ΦK,ΦQ,ΦR,ΦY,ΦG,ΦH,ΦZ,ΦC,ΦD,Ψa,ΦL,Ψj,ΦS,Ψb,Ψd,Ψe,Ψg,Ψh,Ψn,exists_eq_left,exists_eq_left',exists_const,Ψs,Ψo,Ψp,ld_ptr,loadVC,loadN,Ψu,Ψq,Ψw,Ψf,Ψr,Ψt,Ψk,T.elA_24,T.lay_24,T.szA_24,T.zr_24,Tryd.underlying24,T.elA_49,T.lay_49,T.szA_49,T.zr_49,Tryd.underlying49,qcall_f,call_f,len_slice,len_str,cap_slice,min_int,max_int,T.callable_30,hP,h4_2,h4_3,h4_4,h4_6]
          repeat' (first | refine iteB (fun hg => ?_) (fun hg => ?_) | refine iteI (fun hg => ?_) (fun hg => ?_) | ((first | (refine SCall.mono (Takes_spec hP S) ?_; rintro v_ L_ ⟨hv_, hL_⟩; rw [hv_, hL_]; clear hv_ hL_ v_ L_) | refine ⟨by omega, ?_⟩ | refine ⟨_, Cell.at 0 rfl rfl, _, Cell.at 0 rfl rfl, _, Cell.at 0 rfl rfl, _, Cell.at 0 rfl rfl, _, Cell.at 0 rfl rfl, _, Cell.at 0 rfl rfl, _, Cell.at 0 rfl rfl, _, Cell.at 0 rfl rfl, ?_⟩ | refine ⟨_, Cell.at 1 rfl rfl, _, Cell.at 1 rfl rfl, _, Cell.at 1 rfl rfl, _, Cell.at 1 rfl rfl, _, Cell.at 1 rfl rfl, _, Cell.at 1 rfl rfl, _, Cell.at 1 rfl rfl, _, Cell.at 1 rfl rfl, ?_⟩ | refine ⟨_, Cell.at 2 rfl rfl, _, Cell.at 2 rfl rfl, _, Cell.at 2 rfl rfl, _, Cell.at 2 rfl rfl, _, Cell.at 2 rfl rfl, _, Cell.at 2 rfl rfl, _, Cell.at 2 rfl rfl, _, Cell.at 2 rfl rfl, ?_⟩ | refine ⟨_, Cell.at 0 rfl rfl, _, Cell.at 0 rfl rfl, _, Cell.at 0 rfl rfl, _, Cell.at 0 rfl rfl, ?_⟩ | refine ⟨_, Cell.at 1 rfl rfl, _, Cell.at 1 rfl rfl, _, Cell.at 1 rfl rfl, _, Cell.at 1 rfl rfl, ?_⟩ | refine ⟨_, Cell.at 2 rfl rfl, _, Cell.at 2 rfl rfl, _, Cell.at 2 rfl rfl, _, Cell.at 2 rfl rfl, ?_⟩ | refine ⟨_, Cell.at 0 rfl rfl, ?_⟩ | refine ⟨_, Cell.at 1 rfl rfl, ?_⟩ | refine ⟨_, Cell.at 2 rfl rfl, ?_⟩ | fail); try simp (maxSteps := 1000000) only [ΦU,Φy,Φz,ΦI,ev,Φi,Φu,Φn,Φo,Φx,Φw,Φa,Φp,reduceIte,reduceCtorEq,if_true,if_false,Φq,Φk,Φb,Φc,true_and,and_true,false_and,and_false,true_implies,forall_const,false_implies,ne_eq,not_true_eq_false,not_false_eq_true,decide_true,decide_false,Φv,and_self,true_or,or_true,dite_true,dite_false,Φe,Φd,decide_eq_true_eq,decide_eq_false_iff_not,Φf,Φh,Φg,Φj,beq_self_eq_true,Φr,Φs,Φt,Φl,Φm,eq_self,Ψx,Ψl,Ψm,VCops,VQops,Ψv,putVC,VC,VQ,ΦV,ΦW,ΦN,ΦO,ΦE,ΦF,ΦJ,List.getElem?_cons_zero,List.getElem?_cons_succ,List.getElem?_nil,List.getElem?_toArray,Ψc,Ψi,ΦP,ΦA,ΦB,ΦT,ΦM,ΦX,ΦK,ΦQ,ΦR,ΦY,ΦG,ΦH,ΦZ,ΦC,ΦD,Ψa,ΦL,Ψj,ΦS,Ψb,Ψd,Ψe,Ψg,Ψh,Ψn,exists_eq_left,exists_eq_left',exists_const,Ψs,Ψo,Ψp,ld_ptr,loadVC,loadN,Ψu,Ψq,Ψw,Ψf,Ψr,Ψt,Ψk,T.elA_24,T.lay_24,T.szA_24,T.zr_24,Tryd.underlying24,T.elA_49,T.lay_49,T.szA_49,T.zr_49,Tryd.underlying49,qcall_f,call_f,len_slice,len_str,cap_slice,min_int,max_int,T.callable_30,hP,h4_2,h4_3,h4_4,h4_6]) | fail)
          all_goals
            refine hK9 () _ (some (br, .cells #[.int .i64 0, .int .i64 0, .bool false, .int .i64 0] 24 (0, 0)) :: some (bd, .cells #[.int .u8 code, .int .u16 ad, .bool rd, .bool wr, .bool own, .int .u8 data, .int .u8 port, .bool pulse] 49 (0, 0)) :: some (bx, .cells #[.int .i64 l, .int .i64 c, .bool o, .int .i64 g] 24 (0, 0)) :: L) _ (by first | exact Less.refl _ | exact Less.drop _ _ | exact Less.drops (Less.drop _ _) | exact Less.drops (Less.drops (Less.drop _ _)) | exact Less.drops (Less.drops (Less.drops (Less.drop _ _))) | exact Less.drops (Less.drops (Less.drops (Less.drops (Less.drop _ _))))) ?_
            try dsimp only
            refine ⟨?_, ?_, ?_, ?_, ?_, ?_, ?_⟩
            · simp (maxSteps := 1000000) only [ΦU,Φy,Φz,ΦI,ev,Φi,Φu,Φn,Φo,Φx,Φw,Φa,Φp,reduceIte,reduceCtorEq,if_true,if_false,Φq,Φk,Φb,Φc,true_and,and_true,false_and,and_false,true_implies,forall_const,false_implies,ne_eq,not_true_eq_false,not_false_eq_true,decide_true,decide_false,Φv,and_self,true_or,or_true,dite_true,dite_false,Φe,Φd,decide_eq_true_eq,decide_eq_false_iff_not,Φf,Φh,Φg,Φj,beq_self_eq_true,Φr,Φs,Φt,Φl,Φm,eq_self,hP,h4_2,h4_3,h4_4,h4_6]
              first | done | rfl
            · simp (maxSteps := 1000000) only [ΦU,Φy,Φz,ΦI,ev,Φi,Φu,Φn,Φo,Φx,Φw,Φa,Φp,reduceIte,reduceCtorEq,if_true,if_false,Φq,Φk,Φb,Φc,true_and,and_true,false_and,and_false,true_implies,forall_const,false_implies,ne_eq,not_true_eq_false,not_false_eq_true,decide_true,decide_false,Φv,and_self,true_or,or_true,dite_true,dite_false,Φe,Φd,decide_eq_true_eq,decide_eq_false_iff_not,Φf,Φh,Φg,Φj,beq_self_eq_true,Φr,Φs,Φt,Φl,Φm,eq_self,hP,h4_2,h4_3,h4_4,h4_6]
            · simp (maxSteps := 1000000) only [ΦU,Φy,Φz,ΦI,ev,Φi,Φu,Φn,Φo,Φx,Φw,Φa,Φp,reduceIte,reduceCtorEq,if_true,if_false,Φq,Φk,Φb,Φc,true_and,and_true,false_and,and_false,true_implies,forall_const,false_implies,ne_eq,not_true_eq_false,not_false_eq_true,decide_true,decide_false,Φv,and_self,true_or,or_true,dite_true,dite_false,Φe,Φd,decide_eq_true_eq,decide_eq_false_iff_not,Φf,Φh,Φg,Φj,beq_self_eq_true,Φr,Φs,Φt,Φl,Φm,eq_self,hP,h4_2,h4_3,h4_4,h4_6]
            · simp (maxSteps := 1000000) only [ΦU,Φy,Φz,ΦI,ev,Φi,Φu,Φn,Φo,Φx,Φw,Φa,Φp,reduceIte,reduceCtorEq,if_true,if_false,Φq,Φk,Φb,Φc,true_and,and_true,false_and,and_false,true_implies,forall_const,false_implies,ne_eq,not_true_eq_false,not_false_eq_true,decide_true,decide_false,Φv,and_self,true_or,or_true,dite_true,dite_false,Φe,Φd,decide_eq_true_eq,decide_eq_false_iff_not,Φf,Φh,Φg,Φj,beq_self_eq_true,Φr,Φs,Φt,Φl,Φm,eq_self,hP,h4_2,h4_3,h4_4,h4_6]
            · simp (maxSteps := 1000000) only [ΦU,Φy,Φz,ΦI,ev,Φi,Φu,Φn,Φo,Φx,Φw,Φa,Φp,reduceIte,reduceCtorEq,if_true,if_false,Φq,Φk,Φb,Φc,true_and,and_true,false_and,and_false,true_implies,forall_const,false_implies,ne_eq,not_true_eq_false,not_false_eq_true,decide_true,decide_false,Φv,and_self,true_or,or_true,dite_true,dite_false,Φe,Φd,decide_eq_true_eq,decide_eq_false_iff_not,Φf,Φh,Φg,Φj,beq_self_eq_true,Φr,Φs,Φt,Φl,Φm,eq_self,hP,h4_2,h4_3,h4_4,h4_6]
            · rfl
            · trivial
        · intro ss T5 L5 hI
          simp only [h4_2, h4_3, h4_4, h4_6] at hI 
          obtain ⟨h5_17, h5_2, h5_3, h5_4, h5_6, hL5, hinv⟩ := hI
          replace hL5 := hL5.symm
          subst hL5
          clear h4_2 h4_3 h4_4 h4_6 T4
          refine RX.done ?_
          simp (maxSteps := 1000000) only [ΦU,Φy,Φz,ΦI,ev,Φi,Φu,Φn,Φo,Φx,Φw,Φa,Φp,reduceIte,reduceCtorEq,if_true,if_false,Φq,Φk,Φb,Φc,true_and,and_true,false_and,and_false,true_implies,forall_const,false_implies,ne_eq,not_true_eq_false,not_false_eq_true,decide_true,decide_false,Φv,and_self,true_or,or_true,dite_true,dite_false,Φe,Φd,decide_eq_true_eq,decide_eq_false_iff_not,Φf,Φh,Φg,Φj,beq_self_eq_true,Φr,Φs,Φt,Φl,Φm,eq_self,Ψx,Ψl,Ψm,VCops,VQops,Ψv,putVC,VC,VQ,ΦV,ΦW,ΦN,ΦO,ΦE,ΦF,ΦJ,List.getElem?_cons_zero,List.getElem?_cons_succ,List.getElem?_nil,List.getElem?_toArray,Ψc,Ψi,ΦP,ΦA,ΦB,ΦT,ΦM,ΦX,ΦK,ΦQ,ΦR,ΦY,ΦG,ΦH,ΦZ,ΦC,ΦD,Ψa,ΦL,Ψj,ΦS,Ψb,Ψd,Ψe,Ψg,Ψh,Ψn,exists_eq_left,exists_eq_left',exists_const,Ψs,Ψo,Ψp,hP,h5_17,h5_2,h5_3,h5_4,h5_6]
          refine hK8 _ _ ?_
          try clear hK8 K8
          refine SX.cond_k fun X10 Y10 hX10 hY10 => ?_
          simp (maxSteps := 1000000) only [ΦU,Φy,Φz,ΦI,ev,Φi,Φu,Φn,Φo,Φx,Φw,Φa,Φp,reduceIte,reduceCtorEq,if_true,if_false,Φq,Φk,Φb,Φc,true_and,and_true,false_and,and_false,true_implies,forall_const,false_implies,ne_eq,not_true_eq_false,not_false_eq_true,decide_true,decide_false,Φv,and_self,true_or,or_true,dite_true,dite_false,Φe,Φd,decide_eq_true_eq,decide_eq_false_iff_not,Φf,Φh,Φg,Φj,beq_self_eq_true,Φr,Φs,Φt,Φl,Φm,eq_self,hP,h5_17,h5_2,h5_3,h5_4,h5_6,condVC]
          refine ⟨fun hc17 => hX10 ?_, fun hc17 => hY10 ?_⟩
          · clear hX10 hY10 X10 Y10
            refine SX.region ?_
            simp (maxSteps := 1000000) only [ΦU,Φy,Φz,ΦI,ev,Φi,Φu,Φn,Φo,Φx,Φw,Φa,Φp,reduceIte,reduceCtorEq,if_true,if_false,Φq,Φk,Φb,Φc,true_and,and_true,false_and,and_false,true_implies,forall_const,false_implies,ne_eq,not_true_eq_false,not_false_eq_true,decide_true,decide_false,Φv,and_self,true_or,or_true,dite_true,dite_false,Φe,Φd,decide_eq_true_eq,decide_eq_false_iff_not,Φf,Φh,Φg,Φj,beq_self_eq_true,Φr,Φs,Φt,Φl,Φm,eq_self,Ψx,Ψl,Ψm,VCops,VQops,Ψv,putVC,VC,VQ,ΦV,ΦW,ΦN,ΦO,ΦE,ΦF,ΦJ,List.getElem?_cons_zero,List.getElem?_cons_succ,List.getElem?_nil,List.getElem?_toArray,Ψc,Ψi,ΦP,ΦA,ΦB,ΦT,ΦM,ΦX,ΦK,ΦQ,ΦR,ΦY,ΦG,ΦH,ΦZ,ΦC,ΦD,Ψa,ΦL,Ψj,ΦS,Ψb,Ψd,Ψe,Ψg,Ψh,Ψn,exists_eq_left,exists_eq_left',exists_const,Ψs,Ψo,Ψp,fa_ptr,Ψu,Ψq,Ψw,Ψf,Ψr,Ψt,Ψk,T.elA_24,T.lay_24,T.szA_24,T.zr_24,Tryd.underlying24,ld_ptr,loadVC,loadN,T.szA_3,T.zr_3,Tryd.underlying3,bin_add,bin_adds,st_ptr,storeVC,setN,cells_int,cells_bool,ΨB,Ψz,ΨD,cells_agg,oneB_nil,oneB_cons,one_int,one_bool,one_string,ΨE,one_slice,one_map,one_func,ΨF,ΨC,one_iface,cells_map,cells_func,ΨA,Ψy,ΨG,hP,h5_17,h5_2,h5_3,h5_4,h5_6,w1]
            refine ⟨_, Cell.at 2 rfl rfl, ?_⟩
            try simp (maxSteps := 1000000) only [ΦU,Φy,Φz,ΦI,ev,Φi,Φu,Φn,Φo,Φx,Φw,Φa,Φp,reduceIte,reduceCtorEq,if_true,if_false,Φq,Φk,Φb,Φc,true_and,and_true,false_and,and_false,true_implies,forall_const,false_implies,ne_eq,not_true_eq_false,not_false_eq_true,decide_true,decide_false,Φv,and_self,true_or,or_true,dite_true,dite_false,Φe,Φd,decide_eq_true_eq,decide_eq_false_iff_not,Φf,Φh,Φg,Φj,beq_self_eq_true,Φr,Φs,Φt,Φl,Φm,eq_self,Ψx,Ψl,Ψm,VCops,VQops,Ψv,putVC,VC,VQ,ΦV,ΦW,ΦN,ΦO,ΦE,ΦF,ΦJ,List.getElem?_cons_zero,List.getElem?_cons_succ,List.getElem?_nil,List.getElem?_toArray,Ψc,Ψi,ΦP,ΦA,ΦB,ΦT,ΦM,ΦX,ΦK,ΦQ,ΦR,ΦY,ΦG,ΦH,ΦZ,ΦC,ΦD,Ψa,ΦL,Ψj,ΦS,Ψb,Ψd,Ψe,Ψg,Ψh,Ψn,exists_eq_left,exists_eq_left',exists_const,Ψs,Ψo,Ψp,fa_ptr,Ψu,Ψq,Ψw,Ψf,Ψr,Ψt,Ψk,T.elA_24,T.lay_24,T.szA_24,T.zr_24,Tryd.underlying24,ld_ptr,loadVC,loadN,T.szA_3,T.zr_3,Tryd.underlying3,bin_add,bin_adds,st_ptr,storeVC,setN,cells_int,cells_bool,ΨB,Ψz,ΨD,cells_agg,oneB_nil,oneB_cons,one_int,one_bool,one_string,ΨE,one_slice,one_map,one_func,ΨF,ΨC,one_iface,cells_map,cells_func,ΨA,Ψy,ΨG,hP,h5_17,h5_2,h5_3,h5_4,h5_6,w1]
            refine ⟨2, _, _, _, rfl, by first | decide | simp, .inr (by first | decide | simp), ?_⟩
            try simp (maxSteps := 1000000) only [ΦU,Φy,Φz,ΦI,ev,Φi,Φu,Φn,Φo,Φx,Φw,Φa,Φp,reduceIte,reduceCtorEq,if_true,if_false,Φq,Φk,Φb,Φc,true_and,and_true,false_and,and_false,true_implies,forall_const,false_implies,ne_eq,not_true_eq_false,not_false_eq_true,decide_true,decide_false,Φv,and_self,true_or,or_true,dite_true,dite_false,Φe,Φd,decide_eq_true_eq,decide_eq_false_iff_not,Φf,Φh,Φg,Φj,beq_self_eq_true,Φr,Φs,Φt,Φl,Φm,eq_self,Ψx,Ψl,Ψm,VCops,VQops,Ψv,putVC,VC,VQ,ΦV,ΦW,ΦN,ΦO,ΦE,ΦF,ΦJ,List.getElem?_cons_zero,List.getElem?_cons_succ,List.getElem?_nil,List.getElem?_toArray,Ψc,Ψi,ΦP,ΦA,ΦB,ΦT,ΦM,ΦX,ΦK,ΦQ,ΦR,ΦY,ΦG,ΦH,ΦZ,ΦC,ΦD,Ψa,ΦL,Ψj,ΦS,Ψb,Ψd,Ψe,Ψg,Ψh,Ψn,exists_eq_left,exists_eq_left',exists_const,Ψs,Ψo,Ψp,fa_ptr,Ψu,Ψq,Ψw,Ψf,Ψr,Ψt,Ψk,T.elA_24,T.lay_24,T.szA_24,T.zr_24,Tryd.underlying24,ld_ptr,loadVC,loadN,T.szA_3,T.zr_3,Tryd.underlying3,bin_add,bin_adds,st_ptr,storeVC,setN,cells_int,cells_bool,ΨB,Ψz,ΨD,cells_agg,oneB_nil,oneB_cons,one_int,one_bool,one_string,ΨE,one_slice,one_map,one_func,ΨF,ΨC,one_iface,cells_map,cells_func,ΨA,Ψy,ΨG,hP,h5_17,h5_2,h5_3,h5_4,h5_6,w1]
            refine hK7 (g + 1) _ (some (br, .cells #[.int .i64 0, .int .i64 0, .bool false, .int .i64 0] 24 (0, 0)) :: some (bd, .cells #[.int .u8 code, .int .u16 ad, .bool rd, .bool wr, .bool own, .int .u8 data, .int .u8 port, .bool pulse] 49 (0, 0)) :: some (bx, .cells #[.int .i64 l, .int .i64 c, .bool o, .int .i64 ((g + 1))] 24 (0, 0)) :: L) _ (by first | exact Less.refl _ | exact Less.drop _ _ | exact Less.drops (Less.drop _ _) | exact Less.drops (Less.drops (Less.drop _ _)) | exact Less.drops (Less.drops (Less.drops (Less.drop _ _))) | exact Less.drops (Less.drops (Less.drops (Less.drops (Less.drop _ _))))) ?_
            try dsimp only
            refine ⟨?_, ?_, ?_, ?_, ?_, ?_⟩
            · simp (maxSteps := 1000000) only [ΦU,Φy,Φz,ΦI,ev,Φi,Φu,Φn,Φo,Φx,Φw,Φa,Φp,reduceIte,reduceCtorEq,if_true,if_false,Φq,Φk,Φb,Φc,true_and,and_true,false_and,and_false,true_implies,forall_const,false_implies,ne_eq,not_true_eq_false,not_false_eq_true,decide_true,decide_false,Φv,and_self,true_or,or_true,dite_true,dite_false,Φe,Φd,decide_eq_true_eq,decide_eq_false_iff_not,Φf,Φh,Φg,Φj,beq_self_eq_true,Φr,Φs,Φt,Φl,Φm,eq_self,hP,h5_17,h5_2,h5_3,h5_4,h5_6]
            · simp (maxSteps := 1000000) only [ΦU,Φy,Φz,ΦI,ev,Φi,Φu,Φn,Φo,Φx,Φw,Φa,Φp,reduceIte,reduceCtorEq,if_true,if_false,Φq,Φk,Φb,Φc,true_and,and_true,false_and,and_false,true_implies,forall_const,false_implies,ne_eq,not_true_eq_false,not_false_eq_true,decide_true,decide_false,Φv,and_self,true_or,or_true,dite_true,dite_false,Φe,Φd,decide_eq_true_eq,decide_eq_false_iff_not,Φf,Φh,Φg,Φj,beq_self_eq_true,Φr,Φs,Φt,Φl,Φm,eq_self,hP,h5_17,h5_2,h5_3,h5_4,h5_6]
            · simp (maxSteps := 1000000) only [ΦU,Φy,Φz,ΦI,ev,Φi,Φu,Φn,Φo,Φx,Φw,Φa,Φp,reduceIte,reduceCtorEq,if_true,if_false,Φq,Φk,Φb,Φc,true_and,and_true,false_and,and_false,true_implies,forall_const,false_implies,ne_eq,not_true_eq_false,not_false_eq_true,decide_true,decide_false,Φv,and_self,true_or,or_true,dite_true,dite_false,Φe,Φd,decide_eq_true_eq,decide_eq_false_iff_not,Φf,Φh,Φg,Φj,beq_self_eq_true,Φr,Φs,Φt,Φl,Φm,eq_self,hP,h5_17,h5_2,h5_3,h5_4,h5_6]
            · simp (maxSteps := 1000000) only [ΦU,Φy,Φz,ΦI,ev,Φi,Φu,Φn,Φo,Φx,Φw,Φa,Φp,reduceIte,reduceCtorEq,if_true,if_false,Φq,Φk,Φb,Φc,true_and,and_true,false_and,and_false,true_implies,forall_const,false_implies,ne_eq,not_true_eq_false,not_false_eq_true,decide_true,decide_false,Φv,and_self,true_or,or_true,dite_true,dite_false,Φe,Φd,decide_eq_true_eq,decide_eq_false_iff_not,Φf,Φh,Φg,Φj,beq_self_eq_true,Φr,Φs,Φt,Φl,Φm,eq_self,hP,h5_17,h5_2,h5_3,h5_4,h5_6]
            · rfl
            · rw [hc17]; rfl
          · clear hX10 hY10 X10 Y10
            refine SX.skip ?_
            simp only [Φi, Φu, Φn, Φo, Φx, Φw, Φa, if_true, if_false, reduceIte]
            refine hK7 g _ (some (br, .cells #[.int .i64 0, .int .i64 0, .bool false, .int .i64 0] 24 (0, 0)) :: some (bd, .cells #[.int .u8 code, .int .u16 ad, .bool rd, .bool wr, .bool own, .int .u8 data, .int .u8 port, .bool pulse] 49 (0, 0)) :: some (bx, .cells #[.int .i64 l, .int .i64 c, .bool o, .int .i64 g] 24 (0, 0)) :: L) _ (by first | exact Less.refl _ | exact Less.drop _ _ | exact Less.drops (Less.drop _ _) | exact Less.drops (Less.drops (Less.drop _ _)) | exact Less.drops (Less.drops (Less.drops (Less.drop _ _))) | exact Less.drops (Less.drops (Less.drops (Less.drops (Less.drop _ _))))) ?_
            try dsimp only
            refine ⟨?_, ?_, ?_, ?_, ?_, ?_⟩
            · simp (maxSteps := 1000000) only [ΦU,Φy,Φz,ΦI,ev,Φi,Φu,Φn,Φo,Φx,Φw,Φa,Φp,reduceIte,reduceCtorEq,if_true,if_false,Φq,Φk,Φb,Φc,true_and,and_true,false_and,and_false,true_implies,forall_const,false_implies,ne_eq,not_true_eq_false,not_false_eq_true,decide_true,decide_false,Φv,and_self,true_or,or_true,dite_true,dite_false,Φe,Φd,decide_eq_true_eq,decide_eq_false_iff_not,Φf,Φh,Φg,Φj,beq_self_eq_true,Φr,Φs,Φt,Φl,Φm,eq_self,hP,h5_17,h5_2,h5_3,h5_4,h5_6]
            · simp (maxSteps := 1000000) only [ΦU,Φy,Φz,ΦI,ev,Φi,Φu,Φn,Φo,Φx,Φw,Φa,Φp,reduceIte,reduceCtorEq,if_true,if_false,Φq,Φk,Φb,Φc,true_and,and_true,false_and,and_false,true_implies,forall_const,false_implies,ne_eq,not_true_eq_false,not_false_eq_true,decide_true,decide_false,Φv,and_self,true_or,or_true,dite_true,dite_false,Φe,Φd,decide_eq_true_eq,decide_eq_false_iff_not,Φf,Φh,Φg,Φj,beq_self_eq_true,Φr,Φs,Φt,Φl,Φm,eq_self,hP,h5_17,h5_2,h5_3,h5_4,h5_6]
            · simp (maxSteps := 1000000) only [ΦU,Φy,Φz,ΦI,ev,Φi,Φu,Φn,Φo,Φx,Φw,Φa,Φp,reduceIte,reduceCtorEq,if_true,if_false,Φq,Φk,Φb,Φc,true_and,and_true,false_and,and_false,true_implies,forall_const,false_implies,ne_eq,not_true_eq_false,not_false_eq_true,decide_true,decide_false,Φv,and_self,true_or,or_true,dite_true,dite_false,Φe,Φd,decide_eq_true_eq,decide_eq_false_iff_not,Φf,Φh,Φg,Φj,beq_self_eq_true,Φr,Φs,Φt,Φl,Φm,eq_self,hP,h5_17,h5_2,h5_3,h5_4,h5_6]
            · simp (maxSteps := 1000000) only [ΦU,Φy,Φz,ΦI,ev,Φi,Φu,Φn,Φo,Φx,Φw,Φa,Φp,reduceIte,reduceCtorEq,if_true,if_false,Φq,Φk,Φb,Φc,true_and,and_true,false_and,and_false,true_implies,forall_const,false_implies,ne_eq,not_true_eq_false,not_false_eq_true,decide_true,decide_false,Φv,and_self,true_or,or_true,dite_true,dite_false,Φe,Φd,decide_eq_true_eq,decide_eq_false_iff_not,Φf,Φh,Φg,Φj,beq_self_eq_true,Φr,Φs,Φt,Φl,Φm,eq_self,hP,h5_17,h5_2,h5_3,h5_4,h5_6]
            · rfl
            · rw [hc17]; rfl
      · intro g1 T6 L6 hI
        try dsimp only at hI 
        simp only [h3_2, h3_3, h3_4, h3_6] at hI 
        obtain ⟨h6_2, h6_3, h6_4, h6_6, hL6, hg1⟩ := hI
        replace hL6 := hL6.symm
        subst hL6
        clear h3_2 h3_3 h3_4 h3_6 T3
        refine SX.live [2, 3, 4, 6] (fun T7 hT7 => ?_)
        simp only [ΨH,forall_mem_nil',ΦU,Φy,Φz,ΦI,ev,Φi,Φu,Φn,Φo,Φx,Φw,Φa,Φp,reduceIte,reduceCtorEq,if_true,if_false,Φq,Φk,Φb,Φc,true_and,and_true,false_and,and_false,true_implies,forall_const,false_implies,ne_eq,not_true_eq_false,not_false_eq_true,decide_true,decide_false,Φv,and_self,true_or,or_true,dite_true,dite_false,Φe,Φd,decide_eq_true_eq,decide_eq_false_iff_not,Φf,Φh,Φg,Φj,beq_self_eq_true,Φr,Φs,Φt,Φl,Φm,eq_self,hP,h6_2,h6_3,h6_4,h6_6] at hT7
        obtain ⟨h7_2, h7_3, h7_4, h7_6⟩ := hT7
        clear h6_2 h6_3 h6_4 h6_6 T6
        refine SX.join (fun (ss : (Bool)) T L' => (fun (o1 : Bool) => T 3 = T7 3 ∧ T 6 = T7 6 ∧ L' = some (br, .cells #[.int .i64 0, .int .i64 0, .bool false, .int .i64 0] 24 (0, 0)) :: some (bd, .cells #[.int .u8 code, .int .u16 ad, .bool rd, .bool wr, .bool own, .int .u8 data, .int .u8 port, .bool pulse] 49 (0, 0)) :: some (bx, .cells #[.int .i64 l, .int .i64 c, .bool o1, .int .i64 g1] 24 (0, 0)) :: L ∧ (o1 = onB o port rd wr m)) (ss)) (fun K11 hK11 => ?_) ?_
        · simp only [h7_3, h7_6] at hK11
          refine SX.seq_k fun K12 hK12 => ?_
          refine SX.region ?_
          simp (maxSteps := 1000000) only [ΦU,Φy,Φz,ΦI,ev,Φi,Φu,Φn,Φo,Φx,Φw,Φa,Φp,reduceIte,reduceCtorEq,if_true,if_false,Φq,Φk,Φb,Φc,true_and,and_true,false_and,and_false,true_implies,forall_const,false_implies,ne_eq,not_true_eq_false,not_false_eq_true,decide_true,decide_false,Φv,and_self,true_or,or_true,dite_true,dite_false,Φe,Φd,decide_eq_true_eq,decide_eq_false_iff_not,Φf,Φh,Φg,Φj,beq_self_eq_true,Φr,Φs,Φt,Φl,Φm,eq_self,Ψx,Ψl,Ψm,VCops,VQops,Ψv,putVC,VC,VQ,ΦV,ΦW,ΦN,ΦO,ΦE,ΦF,ΦJ,List.getElem?_cons_zero,List.getElem?_cons_succ,List.getElem?_nil,List.getElem?_toArray,Ψc,Ψi,ΦP,ΦA,ΦB,ΦT,ΦM,ΦX,ΦK,ΦQ,ΦR,ΦY,ΦG,ΦH,ΦZ,ΦC,ΦD,Ψa,ΦL,Ψj,ΦS,Ψb,Ψd,Ψe,Ψg,Ψh,Ψn,exists_eq_left,exists_eq_left',exists_const,Ψs,Ψo,Ψp,hP,h7_2,h7_3,h7_4,h7_6]
          refine hK12 _ _ ?_
          try clear hK12 K12
          refine SX.block ?_
          refine SX.seq_k fun K13 hK13 => ?_
          refine SX.block ?_
          refine SX.seq_k fun K14 hK14 => ?_
          refine SX.block ?_
          refine SX.block ?_
          refine SX.seq_k fun K15 hK15 => ?_
          refine SX.seq_k fun K16 hK16 => ?_
          refine SX.seq_k fun K17 hK17 => ?_
          refine SX.region ?_
          simp (maxSteps := 1000000) only [ΦU,Φy,Φz,ΦI,ev,Φi,Φu,Φn,Φo,Φx,Φw,Φa,Φp,reduceIte,reduceCtorEq,if_true,if_false,Φq,Φk,Φb,Φc,true_and,and_true,false_and,and_false,true_implies,forall_const,false_implies,ne_eq,not_true_eq_false,not_false_eq_true,decide_true,decide_false,Φv,and_self,true_or,or_true,dite_true,dite_false,Φe,Φd,decide_eq_true_eq,decide_eq_false_iff_not,Φf,Φh,Φg,Φj,beq_self_eq_true,Φr,Φs,Φt,Φl,Φm,eq_self,Ψx,Ψl,Ψm,VCops,VQops,Ψv,putVC,VC,VQ,ΦV,ΦW,ΦN,ΦO,ΦE,ΦF,ΦJ,List.getElem?_cons_zero,List.getElem?_cons_succ,List.getElem?_nil,List.getElem?_toArray,Ψc,Ψi,ΦP,ΦA,ΦB,ΦT,ΦM,ΦX,ΦK,ΦQ,ΦR,ΦY,ΦG,ΦH,ΦZ,ΦC,ΦD,Ψa,ΦL,Ψj,ΦS,Ψb,Ψd,Ψe,Ψg,Ψh,Ψn,exists_eq_left,exists_eq_left',exists_const,Ψs,Ψo,Ψp,bin_eql,bin_eqlb,bin_eqls,bin_eqla,T.szA_27,T.zr_27,Tryd.underlying27,hP,h7_2,h7_3,h7_4,h7_6]
          refine hK17 _ _ ?_
          try clear hK17 K17
          refine SX.cond_k fun X18 Y18 hX18 hY18 => ?_
          simp (maxSteps := 1000000) only [ΦU,Φy,Φz,ΦI,ev,Φi,Φu,Φn,Φo,Φx,Φw,Φa,Φp,reduceIte,reduceCtorEq,if_true,if_false,Φq,Φk,Φb,Φc,true_and,and_true,false_and,and_false,true_implies,forall_const,false_implies,ne_eq,not_true_eq_false,not_false_eq_true,decide_true,decide_false,Φv,and_self,true_or,or_true,dite_true,dite_false,Φe,Φd,decide_eq_true_eq,decide_eq_false_iff_not,Φf,Φh,Φg,Φj,beq_self_eq_true,Φr,Φs,Φt,Φl,Φm,eq_self,hP,h7_2,h7_3,h7_4,h7_6,condVC]
          refine ⟨fun hc23 => hX18 ?_, fun hc23 => hY18 ?_⟩
          · clear hX18 hY18 X18 Y18
            refine SX.exit ?_
            simp only [Φi, Φu, Φn, Φo, Φx, Φw, Φa, if_true, if_false, reduceIte]
            refine hK14 _ _ ?_
            try clear hK14 K14
            refine SX.seq_k fun K19 hK19 => ?_
            refine SX.region ?_
            simp (maxSteps := 1000000) only [ΦU,Φy,Φz,ΦI,ev,Φi,Φu,Φn,Φo,Φx,Φw,Φa,Φp,reduceIte,reduceCtorEq,if_true,if_false,Φq,Φk,Φb,Φc,true_and,and_true,false_and,and_false,true_implies,forall_const,false_implies,ne_eq,not_true_eq_false,not_false_eq_true,decide_true,decide_false,Φv,and_self,true_or,or_true,dite_true,dite_false,Φe,Φd,decide_eq_true_eq,decide_eq_false_iff_not,Φf,Φh,Φg,Φj,beq_self_eq_true,Φr,Φs,Φt,Φl,Φm,eq_self,Ψx,Ψl,Ψm,VCops,VQops,Ψv,putVC,VC,VQ,ΦV,ΦW,ΦN,ΦO,ΦE,ΦF,ΦJ,List.getElem?_cons_zero,List.getElem?_cons_succ,List.getElem?_nil,List.getElem?_toArray,Ψc,Ψi,ΦP,ΦA,ΦB,ΦT,ΦM,ΦX,ΦK,ΦQ,ΦR,ΦY,ΦG,ΦH,ΦZ,ΦC,ΦD,Ψa,ΦL,Ψj,ΦS,Ψb,Ψd,Ψe,Ψg,Ψh,Ψn,exists_eq_left,exists_eq_left',exists_const,Ψs,Ψo,Ψp,fa_ptr,Ψu,Ψq,Ψw,Ψf,Ψr,Ψt,Ψk,T.elA_24,T.lay_24,T.szA_24,T.zr_24,Tryd.underlying24,st_ptr,storeVC,setN,cells_int,cells_bool,ΨB,Ψz,ΨD,cells_agg,oneB_nil,oneB_cons,one_int,one_bool,one_string,ΨE,one_slice,one_map,one_func,ΨF,ΨC,one_iface,cells_map,cells_func,ΨA,Ψy,ΨG,T.szA_4,T.zr_4,Tryd.underlying4,hP,h7_2,h7_3,h7_4,h7_6]
            refine ⟨2, _, _, _, rfl, by first | decide | simp, .inr (by first | decide | simp), ?_⟩
            try simp (maxSteps := 1000000) only [ΦU,Φy,Φz,ΦI,ev,Φi,Φu,Φn,Φo,Φx,Φw,Φa,Φp,reduceIte,reduceCtorEq,if_true,if_false,Φq,Φk,Φb,Φc,true_and,and_true,false_and,and_false,true_implies,forall_const,false_implies,ne_eq,not_true_eq_false,not_false_eq_true,decide_true,decide_false,Φv,and_self,true_or,or_true,dite_true,dite_false,Φe,Φd,decide_eq_true_eq,decide_eq_false_iff_not,Φf,Φh,Φg,Φj,beq_self_eq_true,Φr,Φs,Φt,Φl,Φm,eq_self,Ψx,Ψl,Ψm,VCops,VQops,Ψv,putVC,VC,VQ,ΦV,ΦW,ΦN,ΦO,ΦE,ΦF,ΦJ,List.getElem?_cons_zero,List.getElem?_cons_succ,List.getElem?_nil,List.getElem?_toArray,Ψc,Ψi,ΦP,ΦA,ΦB,ΦT,ΦM,ΦX,ΦK,ΦQ,ΦR,ΦY,ΦG,ΦH,ΦZ,ΦC,ΦD,Ψa,ΦL,Ψj,ΦS,Ψb,Ψd,Ψe,Ψg,Ψh,Ψn,exists_eq_left,exists_eq_left',exists_const,Ψs,Ψo,Ψp,fa_ptr,Ψu,Ψq,Ψw,Ψf,Ψr,Ψt,Ψk,T.elA_24,T.lay_24,T.szA_24,T.zr_24,Tryd.underlying24,st_ptr,storeVC,setN,cells_int,cells_bool,ΨB,Ψz,ΨD,cells_agg,oneB_nil,oneB_cons,one_int,one_bool,one_string,ΨE,one_slice,one_map,one_func,ΨF,ΨC,one_iface,cells_map,cells_func,ΨA,Ψy,ΨG,T.szA_4,T.zr_4,Tryd.underlying4,hP,h7_2,h7_3,h7_4,h7_6]
            refine hK19 _ _ ?_
            try clear hK19 K19
            refine SX.exit ?_
            simp only [Φi, Φu, Φn, Φo, Φx, Φw, Φa, if_true, if_false, reduceIte]
            refine hK11 false _ (some (br, .cells #[.int .i64 0, .int .i64 0, .bool false, .int .i64 0] 24 (0, 0)) :: some (bd, .cells #[.int .u8 code, .int .u16 ad, .bool rd, .bool wr, .bool own, .int .u8 data, .int .u8 port, .bool pulse] 49 (0, 0)) :: some (bx, .cells #[.int .i64 l, .int .i64 c, .bool false, .int .i64 g1] 24 (0, 0)) :: L) _ (by first | exact Less.refl _ | exact Less.drop _ _ | exact Less.drops (Less.drop _ _) | exact Less.drops (Less.drops (Less.drop _ _)) | exact Less.drops (Less.drops (Less.drops (Less.drop _ _))) | exact Less.drops (Less.drops (Less.drops (Less.drops (Less.drop _ _))))) ?_
            try dsimp only
            refine ⟨?_, ?_, ?_, ?_⟩
            · simp (maxSteps := 1000000) only [ΦU,Φy,Φz,ΦI,ev,Φi,Φu,Φn,Φo,Φx,Φw,Φa,Φp,reduceIte,reduceCtorEq,if_true,if_false,Φq,Φk,Φb,Φc,true_and,and_true,false_and,and_false,true_implies,forall_const,false_implies,ne_eq,not_true_eq_false,not_false_eq_true,decide_true,decide_false,Φv,and_self,true_or,or_true,dite_true,dite_false,Φe,Φd,decide_eq_true_eq,decide_eq_false_iff_not,Φf,Φh,Φg,Φj,beq_self_eq_true,Φr,Φs,Φt,Φl,Φm,eq_self,hP,h7_2,h7_3,h7_4,h7_6]
            · simp (maxSteps := 1000000) only [ΦU,Φy,Φz,ΦI,ev,Φi,Φu,Φn,Φo,Φx,Φw,Φa,Φp,reduceIte,reduceCtorEq,if_true,if_false,Φq,Φk,Φb,Φc,true_and,and_true,false_and,and_false,true_implies,forall_const,false_implies,ne_eq,not_true_eq_false,not_false_eq_true,decide_true,decide_false,Φv,and_self,true_or,or_true,dite_true,dite_false,Φe,Φd,decide_eq_true_eq,decide_eq_false_iff_not,Φf,Φh,Φg,Φj,beq_self_eq_true,Φr,Φs,Φt,Φl,Φm,eq_self,hP,h7_2,h7_3,h7_4,h7_6]
            · rfl
            · rw [onB, if_pos (Or.inl hc23)]
          · clear hX18 hY18 X18 Y18
            refine SX.skip ?_
            simp only [Φi, Φu, Φn, Φo, Φx, Φw, Φa, if_true, if_false, reduceIte]
            refine hK16 _ _ ?_
            try clear hK16 K16
            refine SX.seq_k fun K20 hK20 => ?_
            refine SX.region ?_
            simp (maxSteps := 1000000) only [ΦU,Φy,Φz,ΦI,ev,Φi,Φu,Φn,Φo,Φx,Φw,Φa,Φp,reduceIte,reduceCtorEq,if_true,if_false,Φq,Φk,Φb,Φc,true_and,and_true,false_and,and_false,true_implies,forall_const,false_implies,ne_eq,not_true_eq_false,not_false_eq_true,decide_true,decide_false,Φv,and_self,true_or,or_true,dite_true,dite_false,Φe,Φd,decide_eq_true_eq,decide_eq_false_iff_not,Φf,Φh,Φg,Φj,beq_self_eq_true,Φr,Φs,Φt,Φl,Φm,eq_self,Ψx,Ψl,Ψm,VCops,VQops,Ψv,putVC,VC,VQ,ΦV,ΦW,ΦN,ΦO,ΦE,ΦF,ΦJ,List.getElem?_cons_zero,List.getElem?_cons_succ,List.getElem?_nil,List.getElem?_toArray,Ψc,Ψi,ΦP,ΦA,ΦB,ΦT,ΦM,ΦX,ΦK,ΦQ,ΦR,ΦY,ΦG,ΦH,ΦZ,ΦC,ΦD,Ψa,ΦL,Ψj,ΦS,Ψb,Ψd,Ψe,Ψg,Ψh,Ψn,exists_eq_left,exists_eq_left',exists_const,Ψs,Ψo,Ψp,bin_eql,bin_eqlb,bin_eqls,bin_eqla,T.szA_27,T.zr_27,Tryd.underlying27,hP,h7_2,h7_3,h7_4,h7_6]
            refine hK20 _ _ ?_
            try clear hK20 K20
            refine SX.cond_k fun X21 Y21 hX21 hY21 => ?_
            simp (maxSteps := 1000000) only [ΦU,Φy,Φz,ΦI,ev,Φi,Φu,Φn,Φo,Φx,Φw,Φa,Φp,reduceIte,reduceCtorEq,if_true,if_false,Φq,Φk,Φb,Φc,true_and,and_true,false_and,and_false,true_implies,forall_const,false_implies,ne_eq,not_true_eq_false,not_false_eq_true,decide_true,decide_false,Φv,and_self,true_or,or_true,dite_true,dite_false,Φe,Φd,decide_eq_true_eq,decide_eq_false_iff_not,Φf,Φh,Φg,Φj,beq_self_eq_true,Φr,Φs,Φt,Φl,Φm,eq_self,hP,h7_2,h7_3,h7_4,h7_6,condVC]
            refine ⟨fun hc25 => hX21 ?_, fun hc25 => hY21 ?_⟩
            · clear hX21 hY21 X21 Y21
              refine SX.exit ?_
              simp only [Φi, Φu, Φn, Φo, Φx, Φw, Φa, if_true, if_false, reduceIte]
              refine hK14 _ _ ?_
              try clear hK14 K14
              refine SX.seq_k fun K22 hK22 => ?_
              refine SX.region ?_
              simp (maxSteps := 1000000) only [ΦU,Φy,Φz,ΦI,ev,Φi,Φu,Φn,Φo,Φx,Φw,Φa,Φp,reduceIte,reduceCtorEq,if_true,if_false,Φq,Φk,Φb,Φc,true_and,and_true,false_and,and_false,true_implies,forall_const,false_implies,ne_eq,not_true_eq_false,not_false_eq_true,decide_true,decide_false,Φv,and_self,true_or,or_true,dite_true,dite_false,Φe,Φd,decide_eq_true_eq,decide_eq_false_iff_not,Φf,Φh,Φg,Φj,beq_self_eq_true,Φr,Φs,Φt,Φl,Φm,eq_self,Ψx,Ψl,Ψm,VCops,VQops,Ψv,putVC,VC,VQ,ΦV,ΦW,ΦN,ΦO,ΦE,ΦF,ΦJ,List.getElem?_cons_zero,List.getElem?_cons_succ,List.getElem?_nil,List.getElem?_toArray,Ψc,Ψi,ΦP,ΦA,ΦB,ΦT,ΦM,ΦX,ΦK,ΦQ,ΦR,ΦY,ΦG,ΦH,ΦZ,ΦC,ΦD,Ψa,ΦL,Ψj,ΦS,Ψb,Ψd,Ψe,Ψg,Ψh,Ψn,exists_eq_left,exists_eq_left',exists_const,Ψs,Ψo,Ψp,fa_ptr,Ψu,Ψq,Ψw,Ψf,Ψr,Ψt,Ψk,T.elA_24,T.lay_24,T.szA_24,T.zr_24,Tryd.underlying24,st_ptr,storeVC,setN,cells_int,cells_bool,ΨB,Ψz,ΨD,cells_agg,oneB_nil,oneB_cons,one_int,one_bool,one_string,ΨE,one_slice,one_map,one_func,ΨF,ΨC,one_iface,cells_map,cells_func,ΨA,Ψy,ΨG,T.szA_4,T.zr_4,Tryd.underlying4,hP,h7_2,h7_3,h7_4,h7_6]
              refine ⟨2, _, _, _, rfl, by first | decide | simp, .inr (by first | decide | simp), ?_⟩
              try simp (maxSteps := 1000000) only [ΦU,Φy,Φz,ΦI,ev,Φi,Φu,Φn,Φo,Φx,Φw,Φa,Φp,reduceIte,reduceCtorEq,if_true,if_false,Φq,Φk,Φb,Φc,true_and,and_true,false_and,and_false,true_implies,forall_const,false_implies,ne_eq,not_true_eq_false,not_false_eq_true,decide_true,decide_false,Φv,and_self,true_or,or_true,dite_true,dite_false,Φe,Φd,decide_eq_true_eq,decide_eq_false_iff_not,Φf,Φh,Φg,Φj,beq_self_eq_true,Φr,Φs,Φt,Φl,Φm,eq_self,Ψx,Ψl,Ψm,VCops,VQops,Ψv,putVC,VC,VQ,ΦV,ΦW,ΦN,ΦO,ΦE,ΦF,ΦJ,List.getElem?_cons_zero,List.getElem?_cons_succ,List.getElem?_nil,List.getElem?_toArray,Ψc,Ψi,ΦP,ΦA,ΦB,ΦT,ΦM,ΦX,ΦK,ΦQ,ΦR,ΦY,ΦG,ΦH,ΦZ,ΦC,ΦD,Ψa,ΦL,Ψj,ΦS,Ψb,Ψd,Ψe,Ψg,Ψh,Ψn,exists_eq_left,exists_eq_left',exists_const,Ψs,Ψo,Ψp,fa_ptr,Ψu,Ψq,Ψw,Ψf,Ψr,Ψt,Ψk,T.elA_24,T.lay_24,T.szA_24,T.zr_24,Tryd.underlying24,st_ptr,storeVC,setN,cells_int,cells_bool,ΨB,Ψz,ΨD,cells_agg,oneB_nil,oneB_cons,one_int,one_bool,one_string,ΨE,one_slice,one_map,one_func,ΨF,ΨC,one_iface,cells_map,cells_func,ΨA,Ψy,ΨG,T.szA_4,T.zr_4,Tryd.underlying4,hP,h7_2,h7_3,h7_4,h7_6]
              refine hK22 _ _ ?_
              try clear hK22 K22
              refine SX.exit ?_
              simp only [Φi, Φu, Φn, Φo, Φx, Φw, Φa, if_true, if_false, reduceIte]
              refine hK11 false _ (some (br, .cells #[.int .i64 0, .int .i64 0, .bool false, .int .i64 0] 24 (0, 0)) :: some (bd, .cells #[.int .u8 code, .int .u16 ad, .bool rd, .bool wr, .bool own, .int .u8 data, .int .u8 port, .bool pulse] 49 (0, 0)) :: some (bx, .cells #[.int .i64 l, .int .i64 c, .bool false, .int .i64 g1] 24 (0, 0)) :: L) _ (by first | exact Less.refl _ | exact Less.drop _ _ | exact Less.drops (Less.drop _ _) | exact Less.drops (Less.drops (Less.drop _ _)) | exact Less.drops (Less.drops (Less.drops (Less.drop _ _))) | exact Less.drops (Less.drops (Less.drops (Less.drops (Less.drop _ _))))) ?_
              try dsimp only
              refine ⟨?_, ?_, ?_, ?_⟩
              · simp (maxSteps := 1000000) only [ΦU,Φy,Φz,ΦI,ev,Φi,Φu,Φn,Φo,Φx,Φw,Φa,Φp,reduceIte,reduceCtorEq,if_true,if_false,Φq,Φk,Φb,Φc,true_and,and_true,false_and,and_false,true_implies,forall_const,false_implies,ne_eq,not_true_eq_false,not_false_eq_true,decide_true,decide_false,Φv,and_self,true_or,or_true,dite_true,dite_false,Φe,Φd,decide_eq_true_eq,decide_eq_false_iff_not,Φf,Φh,Φg,Φj,beq_self_eq_true,Φr,Φs,Φt,Φl,Φm,eq_self,hP,h7_2,h7_3,h7_4,h7_6]
              · simp (maxSteps := 1000000) only [ΦU,Φy,Φz,ΦI,ev,Φi,Φu,Φn,Φo,Φx,Φw,Φa,Φp,reduceIte,reduceCtorEq,if_true,if_false,Φq,Φk,Φb,Φc,true_and,and_true,false_and,and_false,true_implies,forall_const,false_implies,ne_eq,not_true_eq_false,not_false_eq_true,decide_true,decide_false,Φv,and_self,true_or,or_true,dite_true,dite_false,Φe,Φd,decide_eq_true_eq,decide_eq_false_iff_not,Φf,Φh,Φg,Φj,beq_self_eq_true,Φr,Φs,Φt,Φl,Φm,eq_self,hP,h7_2,h7_3,h7_4,h7_6]
              · rfl
              · rw [onB, if_pos (Or.inr hc25)]
            · clear hX21 hY21 X21 Y21
              refine SX.skip ?_
              simp only [Φi, Φu, Φn, Φo, Φx, Φw, Φa, if_true, if_false, reduceIte]
              refine hK15 _ _ ?_
              try clear hK15 K15
              refine SX.exit ?_
              simp only [Φi, Φu, Φn, Φo, Φx, Φw, Φa, if_true, if_false, reduceIte]
              refine hK13 _ _ ?_
              try clear hK13 K13
              refine SX.seq_k fun K23 hK23 => ?_
              refine SX.seq_k fun K24 hK24 => ?_
              refine SX.region_x ?_
              refine RX.live [3, 4, 6] (fun T8 hT8 => ?_)
              simp only [ΨH,forall_mem_nil',ΦU,Φy,Φz,ΦI,ev,Φi,Φu,Φn,Φo,Φx,Φw,Φa,Φp,reduceIte,reduceCtorEq,if_true,if_false,Φq,Φk,Φb,Φc,true_and,and_true,false_and,and_false,true_implies,forall_const,false_implies,ne_eq,not_true_eq_false,not_false_eq_true,decide_true,decide_false,Φv,and_self,true_or,or_true,dite_true,dite_false,Φe,Φd,decide_eq_true_eq,decide_eq_false_iff_not,Φf,Φh,Φg,Φj,beq_self_eq_true,Φr,Φs,Φt,Φl,Φm,eq_self,hP,h7_2,h7_3,h7_4,h7_6] at hT8
              obtain ⟨h8_3, h8_4, h8_6⟩ := hT8
              clear h7_2 h7_3 h7_4 h7_6 T7
              refine RX.join 11 (fun (ss : Unit) T L' => T 38 = .bool (decide (port = 1) && (rd || wr)) ∧ T 3 = T8 3 ∧ T 4 = T8 4 ∧ T 6 = T8 6 ∧ L' = some (br, .cells #[.int .i64 0, .int .i64 0, .bool false, .int .i64 0] 24 (0, 0)) :: some (bd, .cells #[.int .u8 code, .int .u16 ad, .bool rd, .bool wr, .bool own, .int .u8 data, .int .u8 port, .bool pulse] 49 (0, 0)) :: some (bx, .cells #[.int .i64 l, .int .i64 c, .bool o, .int .i64 g1] 24 (0, 0)) :: L ∧ (True)) (fun K25 hK25 => ?_) ?_
              · simp only [h8_3, h8_4, h8_6] at hK25
                refine VCops_cut 4 fun K26 hK26 => ?_
                simp (maxSteps := 1000000) only [ΦU,Φy,Φz,ΦI,ev,Φi,Φu,Φn,Φo,Φx,Φw,Φa,Φp,reduceIte,reduceCtorEq,if_true,if_false,Φq,Φk,Φb,Φc,true_and,and_true,false_and,and_false,true_implies,forall_const,false_implies,ne_eq,not_true_eq_false,not_false_eq_true,decide_true,decide_false,Φv,and_self,true_or,or_true,dite_true,dite_false,Φe,Φd,decide_eq_true_eq,decide_eq_false_iff_not,Φf,Φh,Φg,Φj,beq_self_eq_true,Φr,Φs,Φt,Φl,Φm,eq_self,Ψx,Ψl,Ψm,VCops,VQops,Ψv,putVC,VC,VQ,ΦV,ΦW,ΦN,ΦO,ΦE,ΦF,ΦJ,List.getElem?_cons_zero,List.getElem?_cons_succ,List.getElem?_nil,List.getElem?_toArray,Ψc,Ψi,ΦP,ΦA,ΦB,ΦT,ΦM,ΦX,ΦK,ΦQ,ΦR,ΦY,ΦG,ΦH,ΦZ,ΦC,ΦD,Ψa,ΦL,Ψj,ΦS,Ψb,Ψd,Ψe,Ψg,Ψh,Ψn,exists_eq_left,exists_eq_left',exists_const,Ψs,Ψo,Ψp,fa_ptr,Ψu,Ψq,Ψw,Ψf,Ψr,Ψt,Ψk,T.elA_49,T.lay_49,T.szA_49,T.zr_49,Tryd.underlying49,ld_ptr,loadVC,loadN,T.szA_5,T.zr_5,Tryd.underlying5,bin_eql,bin_eqlb,bin_eqls,bin_eqla,hP,h8_3,h8_4,h8_6]
                repeat' (first | refine iteB (fun hg => ?_) (fun hg => ?_) | refine iteI (fun hg => ?_) (fun hg => ?_) | ((first | refine ⟨by omega, ?_⟩ | refine ⟨_, Cell.at 0 rfl rfl, ?_⟩ | refine ⟨_, Cell.at 1 rfl rfl, ?_⟩ | refine ⟨_, Cell.at 2 rfl rfl, ?_⟩ | fail); try simp (maxSteps := 1000000) only [ΦU,Φy,Φz,ΦI,ev,Φi,Φu,Φn,Φo,Φx,Φw,Φa,Φp,reduceIte,reduceCtorEq,if_true,if_false,Φq,Φk,Φb,Φc,true_and,and_true,false_and,and_false,true_implies,forall_const,false_implies,ne_eq,not_true_eq_false,not_false_eq_true,decide_true,decide_false,Φv,and_self,true_or,or_true,dite_true,dite_false,Φe,Φd,decide_eq_true_eq,decide_eq_false_iff_not,Φf,Φh,Φg,Φj,beq_self_eq_true,Φr,Φs,Φt,Φl,Φm,eq_self,Ψx,Ψl,Ψm,VCops,VQops,Ψv,putVC,VC,VQ,ΦV,ΦW,ΦN,ΦO,ΦE,ΦF,ΦJ,List.getElem?_cons_zero,List.getElem?_cons_succ,List.getElem?_nil,List.getElem?_toArray,Ψc,Ψi,ΦP,ΦA,ΦB,ΦT,ΦM,ΦX,ΦK,ΦQ,ΦR,ΦY,ΦG,ΦH,ΦZ,ΦC,ΦD,Ψa,ΦL,Ψj,ΦS,Ψb,Ψd,Ψe,Ψg,Ψh,Ψn,exists_eq_left,exists_eq_left',exists_const,Ψs,Ψo,Ψp,fa_ptr,Ψu,Ψq,Ψw,Ψf,Ψr,Ψt,Ψk,T.elA_49,T.lay_49,T.szA_49,T.zr_49,Tryd.underlying49,ld_ptr,loadVC,loadN,T.szA_5,T.zr_5,Tryd.underlying5,bin_eql,bin_eqlb,bin_eqls,bin_eqla,hP,h8_3,h8_4,h8_6]) | fail)
                all_goals (refine hK26 _ _ ?_; clear hK26 K26)
                all_goals
                  refine VCops_cut 3 fun K27 hK27 => ?_
                  try simp (maxSteps := 1000000) only [ΦU,Φy,Φz,ΦI,ev,Φi,Φu,Φn,Φo,Φx,Φw,Φa,Φp,reduceIte,reduceCtorEq,if_true,if_false,Φq,Φk,Φb,Φc,true_and,and_true,false_and,and_false,true_implies,forall_const,false_implies,ne_eq,not_true_eq_false,not_false_eq_true,decide_true,decide_false,Φv,and_self,true_or,or_true,dite_true,dite_false,Φe,Φd,decide_eq_true_eq,decide_eq_false_iff_not,Φf,Φh,Φg,Φj,beq_self_eq_true,Φr,Φs,Φt,Φl,Φm,eq_self,Ψx,Ψl,Ψm,VCops,VQops,Ψv,putVC,VC,VQ,ΦV,ΦW,ΦN,ΦO,ΦE,ΦF,ΦJ,List.getElem?_cons_zero,List.getElem?_cons_succ,List.getElem?_nil,List.getElem?_toArray,Ψc,Ψi,ΦP,ΦA,ΦB,ΦT,ΦM,ΦX,ΦK,ΦQ,ΦR,ΦY,ΦG,ΦH,ΦZ,ΦC,ΦD,Ψa,ΦL,Ψj,ΦS,Ψb,Ψd,Ψe,Ψg,Ψh,Ψn,exists_eq_left,exists_eq_left',exists_const,Ψs,Ψo,Ψp,fa_ptr,Ψu,Ψq,Ψw,Ψf,Ψr,Ψt,Ψk,T.elA_49,T.lay_49,T.szA_49,T.zr_49,Tryd.underlying49,ld_ptr,loadVC,loadN,T.szA_4,T.zr_4,Tryd.underlying4,hP,h8_3,h8_4,h8_6]
                  repeat' (first | refine iteB (fun hg => ?_) (fun hg => ?_) | refine iteI (fun hg => ?_) (fun hg => ?_) | ((first | refine ⟨by omega, ?_⟩ | refine ⟨_, Cell.at 0 rfl rfl, ?_⟩ | refine ⟨_, Cell.at 1 rfl rfl, ?_⟩ | refine ⟨_, Cell.at 2 rfl rfl, ?_⟩ | fail); try simp (maxSteps := 1000000) only [ΦU,Φy,Φz,ΦI,ev,Φi,Φu,Φn,Φo,Φx,Φw,Φa,Φp,reduceIte,reduceCtorEq,if_true,if_false,Φq,Φk,Φb,Φc,true_and,and_true,false_and,and_false,true_implies,forall_const,false_implies,ne_eq,not_true_eq_false,not_false_eq_true,decide_true,decide_false,Φv,and_self,true_or,or_true,dite_true,dite_false,Φe,Φd,decide_eq_true_eq,decide_eq_false_iff_not,Φf,Φh,Φg,Φj,beq_self_eq_true,Φr,Φs,Φt,Φl,Φm,eq_self,Ψx,Ψl,Ψm,VCops,VQops,Ψv,putVC,VC,VQ,ΦV,ΦW,ΦN,ΦO,ΦE,ΦF,ΦJ,List.getElem?_cons_zero,List.getElem?_cons_succ,List.getElem?_nil,List.getElem?_toArray,Ψc,Ψi,ΦP,ΦA,ΦB,ΦT,ΦM,ΦX,ΦK,ΦQ,ΦR,ΦY,ΦG,ΦH,ΦZ,ΦC,ΦD,Ψa,ΦL,Ψj,ΦS,Ψb,Ψd,Ψe,Ψg,Ψh,Ψn,exists_eq_left,exists_eq_left',exists_const,Ψs,Ψo,Ψp,fa_ptr,Ψu,Ψq,Ψw,Ψf,Ψr,Ψt,Ψk,T.elA_49,T.lay_49,T.szA_49,T.zr_49,Tryd.underlying49,ld_ptr,loadVC,loadN,T.szA_4,T.zr_4,Tryd.underlying4,hP,h8_3,h8_4,h8_6]) | fail)
                  all_goals (refine hK27 _ _ ?_; clear hK27 K27)
                all_goals
                  try simp (maxSteps := 1000000) only [ΦU,Φy,Φz,ΦI,ev,Φi,Φu,Φn,Φo,Φx,Φw,Φa,Φp,reduceIte,reduceCtorEq,if_true,if_false,Φq,Φk,Φb,Φc,true_and,and_true,false_and,and_false,true_implies,forall_const,false_implies,ne_eq,not_true_eq_false,not_false_eq_true,decide_true,decide_false,Φv,and_self,true_or,or_true,dite_true,dite_false,Φe,Φd,decide_eq_true_eq,decide_eq_false_iff_not,Φf,Φh,Φg,Φj,beq_self_eq_true,Φr,Φs,Φt,Φl,Φm,eq_self,Ψx,Ψl,Ψm,VCops,VQops,Ψv,putVC,VC,VQ,ΦV,ΦW,ΦN,ΦO,ΦE,ΦF,ΦJ,List.getElem?_cons_zero,List.getElem?_cons_succ,List.getElem?_nil,List.getElem?_toArray,Ψc,Ψi,ΦP,ΦA,ΦB,ΦT,ΦM,ΦX,ΦK,ΦQ,ΦR,ΦY,ΦG,ΦH,ΦZ,ΦC,ΦD,Ψa,ΦL,Ψj,ΦS,Ψb,Ψd,Ψe,Ψg,Ψh,Ψn,exists_eq_left,exists_eq_left',exists_const,Ψs,Ψo,Ψp,fa_ptr,Ψu,Ψq,Ψw,Ψf,Ψr,Ψt,Ψk,T.elA_49,T.lay_49,T.szA_49,T.zr_49,Tryd.underlying49,ld_ptr,loadVC,loadN,T.szA_4,T.zr_4,Tryd.underlying4,pick_bool,hP,h8_3,h8_4,h8_6]
                  repeat' (first | refine iteB (fun hg => ?_) (fun hg => ?_) | refine iteI (fun hg => ?_) (fun hg => ?_) | ((first | refine ⟨by omega, ?_⟩ | refine ⟨_, Cell.at 0 rfl rfl, ?_⟩ | refine ⟨_, Cell.at 1 rfl rfl, ?_⟩ | refine ⟨_, Cell.at 2 rfl rfl, ?_⟩ | fail); try simp (maxSteps := 1000000) only [ΦU,Φy,Φz,ΦI,ev,Φi,Φu,Φn,Φo,Φx,Φw,Φa,Φp,reduceIte,reduceCtorEq,if_true,if_false,Φq,Φk,Φb,Φc,true_and,and_true,false_and,and_false,true_implies,forall_const,false_implies,ne_eq,not_true_eq_false,not_false_eq_true,decide_true,decide_false,Φv,and_self,true_or,or_true,dite_true,dite_false,Φe,Φd,decide_eq_true_eq,decide_eq_false_iff_not,Φf,Φh,Φg,Φj,beq_self_eq_true,Φr,Φs,Φt,Φl,Φm,eq_self,Ψx,Ψl,Ψm,VCops,VQops,Ψv,putVC,VC,VQ,ΦV,ΦW,ΦN,ΦO,ΦE,ΦF,ΦJ,List.getElem?_cons_zero,List.getElem?_cons_succ,List.getElem?_nil,List.getElem?_toArray,Ψc,Ψi,ΦP,ΦA,ΦB,ΦT,ΦM,ΦX,ΦK,ΦQ,ΦR,ΦY,ΦG,ΦH,ΦZ,ΦC,ΦD,Ψa,ΦL,Ψj,ΦS,Ψb,Ψd,Ψe,Ψg,Ψh,Ψn,exists_eq_left,exists_eq_left',exists_const,Ψs,Ψo,Ψp,fa_ptr,Ψu,Ψq,Ψw,Ψf,Ψr,Ψt,Ψk,T.elA_49,T.lay_49,T.szA_49,T.zr_49,Tryd.underlying49,ld_ptr,loadVC,loadN,T.szA_4,T.zr_4,Tryd.underlying4,pick_bool,hP,h8_3,h8_4,h8_6]) | fail)
                all_goals
                  refine hK25 () _ (some (br, .cells #[.int .i64 0, .int .i64 0, .bool false, .int .i64 0] 24 (0, 0)) :: some (bd, .cells #[.int .u8 code, .int .u16 ad, .bool rd, .bool wr, .bool own, .int .u8 data, .int .u8 port, .bool pulse] 49 (0, 0)) :: some (bx, .cells #[.int .i64 l, .int .i64 c, .bool o, .int .i64 g1] 24 (0, 0)) :: L) _ (by first | exact Less.refl _ | exact Less.drop _ _ | exact Less.drops (Less.drop _ _) | exact Less.drops (Less.drops (Less.drop _ _)) | exact Less.drops (Less.drops (Less.drops (Less.drop _ _))) | exact Less.drops (Less.drops (Less.drops (Less.drops (Less.drop _ _))))) ?_
                  try dsimp only
                  refine ⟨?_, ?_, ?_, ?_, ?_, ?_⟩
                  · simp (maxSteps := 1000000) only [ΦU,Φy,Φz,ΦI,ev,Φi,Φu,Φn,Φo,Φx,Φw,Φa,Φp,reduceIte,reduceCtorEq,if_true,if_false,Φq,Φk,Φb,Φc,true_and,and_true,false_and,and_false,true_implies,forall_const,false_implies,ne_eq,not_true_eq_false,not_false_eq_true,decide_true,decide_false,Φv,and_self,true_or,or_true,dite_true,dite_false,Φe,Φd,decide_eq_true_eq,decide_eq_false_iff_not,Φf,Φh,Φg,Φj,beq_self_eq_true,Φr,Φs,Φt,Φl,Φm,eq_self,hP,h8_3,h8_4,h8_6]
                    first | done | simp [*]
                  · simp (maxSteps := 1000000) only [ΦU,Φy,Φz,ΦI,ev,Φi,Φu,Φn,Φo,Φx,Φw,Φa,Φp,reduceIte,reduceCtorEq,if_true,if_false,Φq,Φk,Φb,Φc,true_and,and_true,false_and,and_false,true_implies,forall_const,false_implies,ne_eq,not_true_eq_false,not_false_eq_true,decide_true,decide_false,Φv,and_self,true_or,or_true,dite_true,dite_false,Φe,Φd,decide_eq_true_eq,decide_eq_false_iff_not,Φf,Φh,Φg,Φj,beq_self_eq_true,Φr,Φs,Φt,Φl,Φm,eq_self,hP,h8_3,h8_4,h8_6]
                  · simp (maxSteps := 1000000) only [ΦU,Φy,Φz,ΦI,ev,Φi,Φu,Φn,Φo,Φx,Φw,Φa,Φp,reduceIte,reduceCtorEq,if_true,if_false,Φq,Φk,Φb,Φc,true_and,and_true,false_and,and_false,true_implies,forall_const,false_implies,ne_eq,not_true_eq_false,not_false_eq_true,decide_true,decide_false,Φv,and_self,true_or,or_true,dite_true,dite_false,Φe,Φd,decide_eq_true_eq,decide_eq_false_iff_not,Φf,Φh,Φg,Φj,beq_self_eq_true,Φr,Φs,Φt,Φl,Φm,eq_self,hP,h8_3,h8_4,h8_6]
                  · simp (maxSteps := 1000000) only [ΦU,Φy,Φz,ΦI,ev,Φi,Φu,Φn,Φo,Φx,Φw,Φa,Φp,reduceIte,reduceCtorEq,if_true,if_false,Φq,Φk,Φb,Φc,true_and,and_true,false_and,and_false,true_implies,forall_const,false_implies,ne_eq,not_true_eq_false,not_false_eq_true,decide_true,decide_false,Φv,and_self,true_or,or_true,dite_true,dite_false,Φe,Φd,decide_eq_true_eq,decide_eq_false_iff_not,Φf,Φh,Φg,Φj,beq_self_eq_true,Φr,Φs,Φt,Φl,Φm,eq_self,hP,h8_3,h8_4,h8_6]
                  · rfl
                  · trivial
              · intro ss T9 L9 hI
                simp only [h8_3, h8_4, h8_6] at hI 
                obtain ⟨h9_38, h9_3, h9_4, h9_6, hL9, hinv⟩ := hI
                replace hL9 := hL9.symm
                subst hL9
                clear h8_3 h8_4 h8_6 T8
                refine RX.done ?_
                simp (maxSteps := 1000000) only [ΦU,Φy,Φz,ΦI,ev,Φi,Φu,Φn,Φo,Φx,Φw,Φa,Φp,reduceIte,reduceCtorEq,if_true,if_false,Φq,Φk,Φb,Φc,true_and,and_true,false_and,and_false,true_implies,forall_const,false_implies,ne_eq,not_true_eq_false,not_false_eq_true,decide_true,decide_false,Φv,and_self,true_or,or_true,dite_true,dite_false,Φe,Φd,decide_eq_true_eq,decide_eq_false_iff_not,Φf,Φh,Φg,Φj,beq_self_eq_true,Φr,Φs,Φt,Φl,Φm,eq_self,Ψx,Ψl,Ψm,VCops,VQops,Ψv,putVC,VC,VQ,ΦV,ΦW,ΦN,ΦO,ΦE,ΦF,ΦJ,List.getElem?_cons_zero,List.getElem?_cons_succ,List.getElem?_nil,List.getElem?_toArray,Ψc,Ψi,ΦP,ΦA,ΦB,ΦT,ΦM,ΦX,ΦK,ΦQ,ΦR,ΦY,ΦG,ΦH,ΦZ,ΦC,ΦD,Ψa,ΦL,Ψj,ΦS,Ψb,Ψd,Ψe,Ψg,Ψh,Ψn,exists_eq_left,exists_eq_left',exists_const,Ψs,Ψo,Ψp,hP,h9_38,h9_3,h9_4,h9_6]
                refine hK24 _ _ ?_
                try clear hK24 K24
                refine SX.cond_k fun X28 Y28 hX28 hY28 => ?_
                simp (maxSteps := 1000000) only [ΦU,Φy,Φz,ΦI,ev,Φi,Φu,Φn,Φo,Φx,Φw,Φa,Φp,reduceIte,reduceCtorEq,if_true,if_false,Φq,Φk,Φb,Φc,true_and,and_true,false_and,and_false,true_implies,forall_const,false_implies,ne_eq,not_true_eq_false,not_false_eq_true,decide_true,decide_false,Φv,and_self,true_or,or_true,dite_true,dite_false,Φe,Φd,decide_eq_true_eq,decide_eq_false_iff_not,Φf,Φh,Φg,Φj,beq_self_eq_true,Φr,Φs,Φt,Φl,Φm,eq_self,hP,h9_38,h9_3,h9_4,h9_6,condVC]
                refine ⟨fun hc38 => hX28 ?_, fun hc38 => hY28 ?_⟩
                · clear hX28 hY28 X28 Y28
                  refine SX.region ?_
                  simp (maxSteps := 1000000) only [ΦU,Φy,Φz,ΦI,ev,Φi,Φu,Φn,Φo,Φx,Φw,Φa,Φp,reduceIte,reduceCtorEq,if_true,if_false,Φq,Φk,Φb,Φc,true_and,and_true,false_and,and_false,true_implies,forall_const,false_implies,ne_eq,not_true_eq_false,not_false_eq_true,decide_true,decide_false,Φv,and_self,true_or,or_true,dite_true,dite_false,Φe,Φd,decide_eq_true_eq,decide_eq_false_iff_not,Φf,Φh,Φg,Φj,beq_self_eq_true,Φr,Φs,Φt,Φl,Φm,eq_self,Ψx,Ψl,Ψm,VCops,VQops,Ψv,putVC,VC,VQ,ΦV,ΦW,ΦN,ΦO,ΦE,ΦF,ΦJ,List.getElem?_cons_zero,List.getElem?_cons_succ,List.getElem?_nil,List.getElem?_toArray,Ψc,Ψi,ΦP,ΦA,ΦB,ΦT,ΦM,ΦX,ΦK,ΦQ,ΦR,ΦY,ΦG,ΦH,ΦZ,ΦC,ΦD,Ψa,ΦL,Ψj,ΦS,Ψb,Ψd,Ψe,Ψg,Ψh,Ψn,exists_eq_left,exists_eq_left',exists_const,Ψs,Ψo,Ψp,fa_ptr,Ψu,Ψq,Ψw,Ψf,Ψr,Ψt,Ψk,T.elA_49,T.lay_49,T.szA_49,T.zr_49,Tryd.underlying49,ld_ptr,loadVC,loadN,T.szA_4,T.zr_4,Tryd.underlying4,T.elA_24,T.lay_24,T.szA_24,T.zr_24,Tryd.underlying24,st_ptr,storeVC,setN,cells_int,cells_bool,ΨB,Ψz,ΨD,cells_agg,oneB_nil,oneB_cons,one_int,one_bool,one_string,ΨE,one_slice,one_map,one_func,ΨF,ΨC,one_iface,cells_map,cells_func,ΨA,Ψy,ΨG,hP,h9_38,h9_3,h9_4,h9_6]
                  refine ⟨_, Cell.at 1 rfl rfl, ?_⟩
                  try simp (maxSteps := 1000000) only [ΦU,Φy,Φz,ΦI,ev,Φi,Φu,Φn,Φo,Φx,Φw,Φa,Φp,reduceIte,reduceCtorEq,if_true,if_false,Φq,Φk,Φb,Φc,true_and,and_true,false_and,and_false,true_implies,forall_const,false_implies,ne_eq,not_true_eq_false,not_false_eq_true,decide_true,decide_false,Φv,and_self,true_or,or_true,dite_true,dite_false,Φe,Φd,decide_eq_true_eq,decide_eq_false_iff_not,Φf,Φh,Φg,Φj,beq_self_eq_true,Φr,Φs,Φt,Φl,Φm,eq_self,Ψx,Ψl,Ψm,VCops,VQops,Ψv,putVC,VC,VQ,ΦV,ΦW,ΦN,ΦO,ΦE,ΦF,ΦJ,List.getElem?_cons_zero,List.getElem?_cons_succ,List.getElem?_nil,List.getElem?_toArray,Ψc,Ψi,ΦP,ΦA,ΦB,ΦT,ΦM,ΦX,ΦK,ΦQ,ΦR,ΦY,ΦG,ΦH,ΦZ,ΦC,ΦD,Ψa,ΦL,Ψj,ΦS,Ψb,Ψd,Ψe,Ψg,Ψh,Ψn,exists_eq_left,exists_eq_left',exists_const,Ψs,Ψo,Ψp,fa_ptr,Ψu,Ψq,Ψw,Ψf,Ψr,Ψt,Ψk,T.elA_49,T.lay_49,T.szA_49,T.zr_49,Tryd.underlying49,ld_ptr,loadVC,loadN,T.szA_4,T.zr_4,Tryd.underlying4,T.elA_24,T.lay_24,T.szA_24,T.zr_24,Tryd.underlying24,st_ptr,storeVC,setN,cells_int,cells_bool,ΨB,Ψz,ΨD,cells_agg,oneB_nil,oneB_cons,one_int,one_bool,one_string,ΨE,one_slice,one_map,one_func,ΨF,ΨC,one_iface,cells_map,cells_func,ΨA,Ψy,ΨG,hP,h9_38,h9_3,h9_4,h9_6]
                  refine ⟨2, _, _, _, rfl, by first | decide | simp, .inr (by first | decide | simp), ?_⟩
                  try simp (maxSteps := 1000000) only [ΦU,Φy,Φz,ΦI,ev,Φi,Φu,Φn,Φo,Φx,Φw,Φa,Φp,reduceIte,reduceCtorEq,if_true,if_false,Φq,Φk,Φb,Φc,true_and,and_true,false_and,and_false,true_implies,forall_const,false_implies,ne_eq,not_true_eq_false,not_false_eq_true,decide_true,decide_false,Φv,and_self,true_or,or_true,dite_true,dite_false,Φe,Φd,decide_eq_true_eq,decide_eq_false_iff_not,Φf,Φh,Φg,Φj,beq_self_eq_true,Φr,Φs,Φt,Φl,Φm,eq_self,Ψx,Ψl,Ψm,VCops,VQops,Ψv,putVC,VC,VQ,ΦV,ΦW,ΦN,ΦO,ΦE,ΦF,ΦJ,List.getElem?_cons_zero,List.getElem?_cons_succ,List.getElem?_nil,List.getElem?_toArray,Ψc,Ψi,ΦP,ΦA,ΦB,ΦT,ΦM,ΦX,ΦK,ΦQ,ΦR,ΦY,ΦG,ΦH,ΦZ,ΦC,ΦD,Ψa,ΦL,Ψj,ΦS,Ψb,Ψd,Ψe,Ψg,Ψh,Ψn,exists_eq_left,exists_eq_left',exists_const,Ψs,Ψo,Ψp,fa_ptr,Ψu,Ψq,Ψw,Ψf,Ψr,Ψt,Ψk,T.elA_49,T.lay_49,T.szA_49,T.zr_49,Tryd.underlying49,ld_ptr,loadVC,loadN,T.szA_4,T.zr_4,Tryd.underlying4,T.elA_24,T.lay_24,T.szA_24,T.zr_24,Tryd.underlying24,st_ptr,storeVC,setN,cells_int,cells_bool,ΨB,Ψz,ΨD,cells_agg,oneB_nil,oneB_cons,one_int,one_bool,one_string,ΨE,one_slice,one_map,one_func,ΨF,ΨC,one_iface,cells_map,cells_func,ΨA,Ψy,ΨG,hP,h9_38,h9_3,h9_4,h9_6]
                  refine hK23 _ _ ?_
                  try clear hK23 K23
                  refine SX.exit ?_
                  simp only [Φi, Φu, Φn, Φo, Φx, Φw, Φa, if_true, if_false, reduceIte]
                  refine hK11 wr _ (some (br, .cells #[.int .i64 0, .int .i64 0, .bool false, .int .i64 0] 24 (0, 0)) :: some (bd, .cells #[.int .u8 code, .int .u16 ad, .bool rd, .bool wr, .bool own, .int .u8 data, .int .u8 port, .bool pulse] 49 (0, 0)) :: some (bx, .cells #[.int .i64 l, .int .i64 c, .bool wr, .int .i64 g1] 24 (0, 0)) :: L) _ (by first | exact Less.refl _ | exact Less.drop _ _ | exact Less.drops (Less.drop _ _) | exact Less.drops (Less.drops (Less.drop _ _)) | exact Less.drops (Less.drops (Less.drops (Less.drop _ _))) | exact Less.drops (Less.drops (Less.drops (Less.drops (Less.drop _ _))))) ?_
                  try dsimp only
                  refine ⟨?_, ?_, ?_, ?_⟩
                  · simp (maxSteps := 1000000) only [ΦU,Φy,Φz,ΦI,ev,Φi,Φu,Φn,Φo,Φx,Φw,Φa,Φp,reduceIte,reduceCtorEq,if_true,if_false,Φq,Φk,Φb,Φc,true_and,and_true,false_and,and_false,true_implies,forall_const,false_implies,ne_eq,not_true_eq_false,not_false_eq_true,decide_true,decide_false,Φv,and_self,true_or,or_true,dite_true,dite_false,Φe,Φd,decide_eq_true_eq,decide_eq_false_iff_not,Φf,Φh,Φg,Φj,beq_self_eq_true,Φr,Φs,Φt,Φl,Φm,eq_self,hP,h9_38,h9_3,h9_4,h9_6]
                  · simp (maxSteps := 1000000) only [ΦU,Φy,Φz,ΦI,ev,Φi,Φu,Φn,Φo,Φx,Φw,Φa,Φp,reduceIte,reduceCtorEq,if_true,if_false,Φq,Φk,Φb,Φc,true_and,and_true,false_and,and_false,true_implies,forall_const,false_implies,ne_eq,not_true_eq_false,not_false_eq_true,decide_true,decide_false,Φv,and_self,true_or,or_true,dite_true,dite_false,Φe,Φd,decide_eq_true_eq,decide_eq_false_iff_not,Φf,Φh,Φg,Φj,beq_self_eq_true,Φr,Φs,Φt,Φl,Φm,eq_self,hP,h9_38,h9_3,h9_4,h9_6]
                  · rfl
                  · rw [onB, if_neg (by omega), if_pos hc38]
                · clear hX28 hY28 X28 Y28
                  refine SX.skip ?_
                  simp only [Φi, Φu, Φn, Φo, Φx, Φw, Φa, if_true, if_false, reduceIte]
                  refine hK23 _ _ ?_
                  try clear hK23 K23
                  refine SX.exit ?_
                  simp only [Φi, Φu, Φn, Φo, Φx, Φw, Φa, if_true, if_false, reduceIte]
                  refine hK11 o _ (some (br, .cells #[.int .i64 0, .int .i64 0, .bool false, .int .i64 0] 24 (0, 0)) :: some (bd, .cells #[.int .u8 code, .int .u16 ad, .bool rd, .bool wr, .bool own, .int .u8 data, .int .u8 port, .bool pulse] 49 (0, 0)) :: some (bx, .cells #[.int .i64 l, .int .i64 c, .bool o, .int .i64 g1] 24 (0, 0)) :: L) _ (by first | exact Less.refl _ | exact Less.drop _ _ | exact Less.drops (Less.drop _ _) | exact Less.drops (Less.drops (Less.drop _ _)) | exact Less.drops (Less.drops (Less.drops (Less.drop _ _))) | exact Less.drops (Less.drops (Less.drops (Less.drops (Less.drop _ _))))) ?_
                  try dsimp only
                  refine ⟨?_, ?_, ?_, ?_⟩
                  · simp (maxSteps := 1000000) only [ΦU,Φy,Φz,ΦI,ev,Φi,Φu,Φn,Φo,Φx,Φw,Φa,Φp,reduceIte,reduceCtorEq,if_true,if_false,Φq,Φk,Φb,Φc,true_and,and_true,false_and,and_false,true_implies,forall_const,false_implies,ne_eq,not_true_eq_false,not_false_eq_true,decide_true,decide_false,Φv,and_self,true_or,or_true,dite_true,dite_false,Φe,Φd,decide_eq_true_eq,decide_eq_false_iff_not,Φf,Φh,Φg,Φj,beq_self_eq_true,Φr,Φs,Φt,Φl,Φm,eq_self,hP,h9_38,h9_3,h9_4,h9_6]
                  · simp (maxSteps := 1000000) only [ΦU,Φy,Φz,ΦI,ev,Φi,Φu,Φn,Φo,Φx,Φw,Φa,Φp,reduceIte,reduceCtorEq,if_true,if_false,Φq,Φk,Φb,Φc,true_and,and_true,false_and,and_false,true_implies,forall_const,false_implies,ne_eq,not_true_eq_false,not_false_eq_true,decide_true,decide_false,Φv,and_self,true_or,or_true,dite_true,dite_false,Φe,Φd,decide_eq_true_eq,decide_eq_false_iff_not,Φf,Φh,Φg,Φj,beq_self_eq_true,Φr,Φs,Φt,Φl,Φm,eq_self,hP,h9_38,h9_3,h9_4,h9_6]
                  · rfl
                  · rw [onB, if_neg (by omega), if_neg (by rw [hc38]; decide)]
        · intro o1 T10 L10 hI
          try dsimp only at hI 
          simp only [h7_3, h7_6] at hI 
          obtain ⟨h10_3, h10_6, hL10, ho1⟩ := hI
          replace hL10 := hL10.symm
          subst hL10
          clear h7_2 h7_3 h7_4 h7_6 T7
          refine SX.seq_k fun K29 hK29 => ?_
          refine SX.region ?_
          simp (maxSteps := 1000000) only [ΦU,Φy,Φz,ΦI,ev,Φi,Φu,Φn,Φo,Φx,Φw,Φa,Φp,reduceIte,reduceCtorEq,if_true,if_false,Φq,Φk,Φb,Φc,true_and,and_true,false_and,and_false,true_implies,forall_const,false_implies,ne_eq,not_true_eq_false,not_false_eq_true,decide_true,decide_false,Φv,and_self,true_or,or_true,dite_true,dite_false,Φe,Φd,decide_eq_true_eq,decide_eq_false_iff_not,Φf,Φh,Φg,Φj,beq_self_eq_true,Φr,Φs,Φt,Φl,Φm,eq_self,Ψx,Ψl,Ψm,VCops,VQops,Ψv,putVC,VC,VQ,ΦV,ΦW,ΦN,ΦO,ΦE,ΦF,ΦJ,List.getElem?_cons_zero,List.getElem?_cons_succ,List.getElem?_nil,List.getElem?_toArray,Ψc,Ψi,ΦP,ΦA,ΦB,ΦT,ΦM,ΦX,ΦK,ΦQ,ΦR,ΦY,ΦG,ΦH,ΦZ,ΦC,ΦD,Ψa,ΦL,Ψj,ΦS,Ψb,Ψd,Ψe,Ψg,Ψh,Ψn,exists_eq_left,exists_eq_left',exists_const,Ψs,Ψo,Ψp,fa_ptr,Ψu,Ψq,Ψw,Ψf,Ψr,Ψt,Ψk,T.elA_24,T.lay_24,T.szA_24,T.zr_24,Tryd.underlying24,ld_ptr,loadVC,loadN,T.szA_3,T.zr_3,Tryd.underlying3,bin_add,bin_adds,st_ptr,storeVC,setN,cells_int,cells_bool,ΨB,Ψz,ΨD,cells_agg,oneB_nil,oneB_cons,one_int,one_bool,one_string,ΨE,one_slice,one_map,one_func,ΨF,ΨC,one_iface,cells_map,cells_func,ΨA,Ψy,ΨG,hP,h10_3,h10_6,w2]
          refine ⟨_, Cell.at 2 rfl rfl, ?_⟩
          try simp (maxSteps := 1000000) only [ΦU,Φy,Φz,ΦI,ev,Φi,Φu,Φn,Φo,Φx,Φw,Φa,Φp,reduceIte,reduceCtorEq,if_true,if_false,Φq,Φk,Φb,Φc,true_and,and_true,false_and,and_false,true_implies,forall_const,false_implies,ne_eq,not_true_eq_false,not_false_eq_true,decide_true,decide_false,Φv,and_self,true_or,or_true,dite_true,dite_false,Φe,Φd,decide_eq_true_eq,decide_eq_false_iff_not,Φf,Φh,Φg,Φj,beq_self_eq_true,Φr,Φs,Φt,Φl,Φm,eq_self,Ψx,Ψl,Ψm,VCops,VQops,Ψv,putVC,VC,VQ,ΦV,ΦW,ΦN,ΦO,ΦE,ΦF,ΦJ,List.getElem?_cons_zero,List.getElem?_cons_succ,List.getElem?_nil,List.getElem?_toArray,Ψc,Ψi,ΦP,ΦA,ΦB,ΦT,ΦM,ΦX,ΦK,ΦQ,ΦR,ΦY,ΦG,ΦH,ΦZ,ΦC,ΦD,Ψa,ΦL,Ψj,ΦS,Ψb,Ψd,Ψe,Ψg,Ψh,Ψn,exists_eq_left,exists_eq_left',exists_const,Ψs,Ψo,Ψp,fa_ptr,Ψu,Ψq,Ψw,Ψf,Ψr,Ψt,Ψk,T.elA_24,T.lay_24,T.szA_24,T.zr_24,Tryd.underlying24,ld_ptr,loadVC,loadN,T.szA_3,T.zr_3,Tryd.underlying3,bin_add,bin_adds,st_ptr,storeVC,setN,cells_int,cells_bool,ΨB,Ψz,ΨD,cells_agg,oneB_nil,oneB_cons,one_int,one_bool,one_string,ΨE,one_slice,one_map,one_func,ΨF,ΨC,one_iface,cells_map,cells_func,ΨA,Ψy,ΨG,hP,h10_3,h10_6,w2]
          refine ⟨2, _, _, _, rfl, by first | decide | simp, .inr (by first | decide | simp), ?_⟩
          try simp (maxSteps := 1000000) only [ΦU,Φy,Φz,ΦI,ev,Φi,Φu,Φn,Φo,Φx,Φw,Φa,Φp,reduceIte,reduceCtorEq,if_true,if_false,Φq,Φk,Φb,Φc,true_and,and_true,false_and,and_false,true_implies,forall_const,false_implies,ne_eq,not_true_eq_false,not_false_eq_true,decide_true,decide_false,Φv,and_self,true_or,or_true,dite_true,dite_false,Φe,Φd,decide_eq_true_eq,decide_eq_false_iff_not,Φf,Φh,Φg,Φj,beq_self_eq_true,Φr,Φs,Φt,Φl,Φm,eq_self,Ψx,Ψl,Ψm,VCops,VQops,Ψv,putVC,VC,VQ,ΦV,ΦW,ΦN,ΦO,ΦE,ΦF,ΦJ,List.getElem?_cons_zero,List.getElem?_cons_succ,List.getElem?_nil,List.getElem?_toArray,Ψc,Ψi,ΦP,ΦA,ΦB,ΦT,ΦM,ΦX,ΦK,ΦQ,ΦR,ΦY,ΦG,ΦH,ΦZ,ΦC,ΦD,Ψa,ΦL,Ψj,ΦS,Ψb,Ψd,Ψe,Ψg,Ψh,Ψn,exists_eq_left,exists_eq_left',exists_const,Ψs,Ψo,Ψp,fa_ptr,Ψu,Ψq,Ψw,Ψf,Ψr,Ψt,Ψk,T.elA_24,T.lay_24,T.szA_24,T.zr_24,Tryd.underlying24,ld_ptr,loadVC,loadN,T.szA_3,T.zr_3,Tryd.underlying3,bin_add,bin_adds,st_ptr,storeVC,setN,cells_int,cells_bool,ΨB,Ψz,ΨD,cells_agg,oneB_nil,oneB_cons,one_int,one_bool,one_string,ΨE,one_slice,one_map,one_func,ΨF,ΨC,one_iface,cells_map,cells_func,ΨA,Ψy,ΨG,hP,h10_3,h10_6,w2]
          refine hK29 _ _ ?_
          try clear hK29 K29
          refine SX.seq_k fun K30 hK30 => ?_
          refine SX.seq_k fun K31 hK31 => ?_
          refine SX.region ?_
          simp (maxSteps := 1000000) only [ΦU,Φy,Φz,ΦI,ev,Φi,Φu,Φn,Φo,Φx,Φw,Φa,Φp,reduceIte,reduceCtorEq,if_true,if_false,Φq,Φk,Φb,Φc,true_and,and_true,false_and,and_false,true_implies,forall_const,false_implies,ne_eq,not_true_eq_false,not_false_eq_true,decide_true,decide_false,Φv,and_self,true_or,or_true,dite_true,dite_false,Φe,Φd,decide_eq_true_eq,decide_eq_false_iff_not,Φf,Φh,Φg,Φj,beq_self_eq_true,Φr,Φs,Φt,Φl,Φm,eq_self,Ψx,Ψl,Ψm,VCops,VQops,Ψv,putVC,VC,VQ,ΦV,ΦW,ΦN,ΦO,ΦE,ΦF,ΦJ,List.getElem?_cons_zero,List.getElem?_cons_succ,List.getElem?_nil,List.getElem?_toArray,Ψc,Ψi,ΦP,ΦA,ΦB,ΦT,ΦM,ΦX,ΦK,ΦQ,ΦR,ΦY,ΦG,ΦH,ΦZ,ΦC,ΦD,Ψa,ΦL,Ψj,ΦS,Ψb,Ψd,Ψe,Ψg,Ψh,Ψn,exists_eq_left,exists_eq_left',exists_const,Ψs,Ψo,Ψp,fa_ptr,Ψu,Ψq,Ψw,Ψf,Ψr,Ψt,Ψk,T.elA_24,T.lay_24,T.szA_24,T.zr_24,Tryd.underlying24,ld_ptr,loadVC,loadN,T.szA_3,T.zr_3,Tryd.underlying3,bin_eql,bin_eqlb,bin_eqls,bin_eqla,hP,h10_3,h10_6]
          refine ⟨_, Cell.at 2 rfl rfl, ?_⟩
          try simp (maxSteps := 1000000) only [ΦU,Φy,Φz,ΦI,ev,Φi,Φu,Φn,Φo,Φx,Φw,Φa,Φp,reduceIte,reduceCtorEq,if_true,if_false,Φq,Φk,Φb,Φc,true_and,and_true,false_and,and_false,true_implies,forall_const,false_implies,ne_eq,not_true_eq_false,not_false_eq_true,decide_true,decide_false,Φv,and_self,true_or,or_true,dite_true,dite_false,Φe,Φd,decide_eq_true_eq,decide_eq_false_iff_not,Φf,Φh,Φg,Φj,beq_self_eq_true,Φr,Φs,Φt,Φl,Φm,eq_self,Ψx,Ψl,Ψm,VCops,VQops,Ψv,putVC,VC,VQ,ΦV,ΦW,ΦN,ΦO,ΦE,ΦF,ΦJ,List.getElem?_cons_zero,List.getElem?_cons_succ,List.getElem?_nil,List.getElem?_toArray,Ψc,Ψi,ΦP,ΦA,ΦB,ΦT,ΦM,ΦX,ΦK,ΦQ,ΦR,ΦY,ΦG,ΦH,ΦZ,ΦC,ΦD,Ψa,ΦL,Ψj,ΦS,Ψb,Ψd,Ψe,Ψg,Ψh,Ψn,exists_eq_left,exists_eq_left',exists_const,Ψs,Ψo,Ψp,fa_ptr,Ψu,Ψq,Ψw,Ψf,Ψr,Ψt,Ψk,T.elA_24,T.lay_24,T.szA_24,T.zr_24,Tryd.underlying24,ld_ptr,loadVC,loadN,T.szA_3,T.zr_3,Tryd.underlying3,bin_eql,bin_eqlb,bin_eqls,bin_eqla,hP,h10_3,h10_6]
          refine hK31 _ _ ?_
          try clear hK31 K31
          refine SX.cond_k fun X32 Y32 hX32 hY32 => ?_
          simp (maxSteps := 1000000) only [ΦU,Φy,Φz,ΦI,ev,Φi,Φu,Φn,Φo,Φx,Φw,Φa,Φp,reduceIte,reduceCtorEq,if_true,if_false,Φq,Φk,Φb,Φc,true_and,and_true,false_and,and_false,true_implies,forall_const,false_implies,ne_eq,not_true_eq_false,not_false_eq_true,decide_true,decide_false,Φv,and_self,true_or,or_true,dite_true,dite_false,Φe,Φd,decide_eq_true_eq,decide_eq_false_iff_not,Φf,Φh,Φg,Φj,beq_self_eq_true,Φr,Φs,Φt,Φl,Φm,eq_self,hP,h10_3,h10_6,condVC]
          refine ⟨fun hc48 => hX32 ?_, fun hc48 => hY32 ?_⟩
          · clear hX32 hY32 X32 Y32
            refine SX.seq_k fun K33 hK33 => ?_
            refine SX.region ?_
            simp (maxSteps := 1000000) only [ΦU,Φy,Φz,ΦI,ev,Φi,Φu,Φn,Φo,Φx,Φw,Φa,Φp,reduceIte,reduceCtorEq,if_true,if_false,Φq,Φk,Φb,Φc,true_and,and_true,false_and,and_false,true_implies,forall_const,false_implies,ne_eq,not_true_eq_false,not_false_eq_true,decide_true,decide_false,Φv,and_self,true_or,or_true,dite_true,dite_false,Φe,Φd,decide_eq_true_eq,decide_eq_false_iff_not,Φf,Φh,Φg,Φj,beq_self_eq_true,Φr,Φs,Φt,Φl,Φm,eq_self,Ψx,Ψl,Ψm,VCops,VQops,Ψv,putVC,VC,VQ,ΦV,ΦW,ΦN,ΦO,ΦE,ΦF,ΦJ,List.getElem?_cons_zero,List.getElem?_cons_succ,List.getElem?_nil,List.getElem?_toArray,Ψc,Ψi,ΦP,ΦA,ΦB,ΦT,ΦM,ΦX,ΦK,ΦQ,ΦR,ΦY,ΦG,ΦH,ΦZ,ΦC,ΦD,Ψa,ΦL,Ψj,ΦS,Ψb,Ψd,Ψe,Ψg,Ψh,Ψn,exists_eq_left,exists_eq_left',exists_const,Ψs,Ψo,Ψp,fa_ptr,Ψu,Ψq,Ψw,Ψf,Ψr,Ψt,Ψk,T.elA_24,T.lay_24,T.szA_24,T.zr_24,Tryd.underlying24,st_ptr,storeVC,setN,cells_int,cells_bool,ΨB,Ψz,ΨD,cells_agg,oneB_nil,oneB_cons,one_int,one_bool,one_string,ΨE,one_slice,one_map,one_func,ΨF,ΨC,one_iface,cells_map,cells_func,ΨA,Ψy,ΨG,T.szA_3,T.zr_3,Tryd.underlying3,hP,h10_3,h10_6]
            refine ⟨2, _, _, _, rfl, by first | decide | simp, .inr (by first | decide | simp), ?_⟩
            try simp (maxSteps := 1000000) only [ΦU,Φy,Φz,ΦI,ev,Φi,Φu,Φn,Φo,Φx,Φw,Φa,Φp,reduceIte,reduceCtorEq,if_true,if_false,Φq,Φk,Φb,Φc,true_and,and_true,false_and,and_false,true_implies,forall_const,false_implies,ne_eq,not_true_eq_false,not_false_eq_true,decide_true,decide_false,Φv,and_self,true_or,or_true,dite_true,dite_false,Φe,Φd,decide_eq_true_eq,decide_eq_false_iff_not,Φf,Φh,Φg,Φj,beq_self_eq_true,Φr,Φs,Φt,Φl,Φm,eq_self,Ψx,Ψl,Ψm,VCops,VQops,Ψv,putVC,VC,VQ,ΦV,ΦW,ΦN,ΦO,ΦE,ΦF,ΦJ,List.getElem?_cons_zero,List.getElem?_cons_succ,List.getElem?_nil,List.getElem?_toArray,Ψc,Ψi,ΦP,ΦA,ΦB,ΦT,ΦM,ΦX,ΦK,ΦQ,ΦR,ΦY,ΦG,ΦH,ΦZ,ΦC,ΦD,Ψa,ΦL,Ψj,ΦS,Ψb,Ψd,Ψe,Ψg,Ψh,Ψn,exists_eq_left,exists_eq_left',exists_const,Ψs,Ψo,Ψp,fa_ptr,Ψu,Ψq,Ψw,Ψf,Ψr,Ψt,Ψk,T.elA_24,T.lay_24,T.szA_24,T.zr_24,Tryd.underlying24,st_ptr,storeVC,setN,cells_int,cells_bool,ΨB,Ψz,ΨD,cells_agg,oneB_nil,oneB_cons,one_int,one_bool,one_string,ΨE,one_slice,one_map,one_func,ΨF,ΨC,one_iface,cells_map,cells_func,ΨA,Ψy,ΨG,T.szA_3,T.zr_3,Tryd.underlying3,hP,h10_3,h10_6]
            refine ⟨2, _, _, _, rfl, by first | decide | simp, .inr (by first | decide | simp), ?_⟩
            try simp (maxSteps := 1000000) only [ΦU,Φy,Φz,ΦI,ev,Φi,Φu,Φn,Φo,Φx,Φw,Φa,Φp,reduceIte,reduceCtorEq,if_true,if_false,Φq,Φk,Φb,Φc,true_and,and_true,false_and,and_false,true_implies,forall_const,false_implies,ne_eq,not_true_eq_false,not_false_eq_true,decide_true,decide_false,Φv,and_self,true_or,or_true,dite_true,dite_false,Φe,Φd,decide_eq_true_eq,decide_eq_false_iff_not,Φf,Φh,Φg,Φj,beq_self_eq_true,Φr,Φs,Φt,Φl,Φm,eq_self,Ψx,Ψl,Ψm,VCops,VQops,Ψv,putVC,VC,VQ,ΦV,ΦW,ΦN,ΦO,ΦE,ΦF,ΦJ,List.getElem?_cons_zero,List.getElem?_cons_succ,List.getElem?_nil,List.getElem?_toArray,Ψc,Ψi,ΦP,ΦA,ΦB,ΦT,ΦM,ΦX,ΦK,ΦQ,ΦR,ΦY,ΦG,ΦH,ΦZ,ΦC,ΦD,Ψa,ΦL,Ψj,ΦS,Ψb,Ψd,Ψe,Ψg,Ψh,Ψn,exists_eq_left,exists_eq_left',exists_const,Ψs,Ψo,Ψp,fa_ptr,Ψu,Ψq,Ψw,Ψf,Ψr,Ψt,Ψk,T.elA_24,T.lay_24,T.szA_24,T.zr_24,Tryd.underlying24,st_ptr,storeVC,setN,cells_int,cells_bool,ΨB,Ψz,ΨD,cells_agg,oneB_nil,oneB_cons,one_int,one_bool,one_string,ΨE,one_slice,one_map,one_func,ΨF,ΨC,one_iface,cells_map,cells_func,ΨA,Ψy,ΨG,T.szA_3,T.zr_3,Tryd.underlying3,hP,h10_3,h10_6]
            refine hK33 _ _ ?_
            try clear hK33 K33
            refine SX.live [3, 6] (fun T11 hT11 => ?_)
            simp only [ΨH,forall_mem_nil',ΦU,Φy,Φz,ΦI,ev,Φi,Φu,Φn,Φo,Φx,Φw,Φa,Φp,reduceIte,reduceCtorEq,if_true,if_false,Φq,Φk,Φb,Φc,true_and,and_true,false_and,and_false,true_implies,forall_const,false_implies,ne_eq,not_true_eq_false,not_false_eq_true,decide_true,decide_false,Φv,and_self,true_or,or_true,dite_true,dite_false,Φe,Φd,decide_eq_true_eq,decide_eq_false_iff_not,Φf,Φh,Φg,Φj,beq_self_eq_true,Φr,Φs,Φt,Φl,Φm,eq_self,hP,h10_3,h10_6] at hT11
            obtain ⟨h11_3, h11_6⟩ := hT11
            clear h10_3 h10_6 T10
            refine SX.region ?_
            simp (maxSteps := 1000000) only [ΦU,Φy,Φz,ΦI,ev,Φi,Φu,Φn,Φo,Φx,Φw,Φa,Φp,reduceIte,reduceCtorEq,if_true,if_false,Φq,Φk,Φb,Φc,true_and,and_true,false_and,and_false,true_implies,forall_const,false_implies,ne_eq,not_true_eq_false,not_false_eq_true,decide_true,decide_false,Φv,and_self,true_or,or_true,dite_true,dite_false,Φe,Φd,decide_eq_true_eq,decide_eq_false_iff_not,Φf,Φh,Φg,Φj,beq_self_eq_true,Φr,Φs,Φt,Φl,Φm,eq_self,Ψx,Ψl,Ψm,VCops,VQops,Ψv,putVC,VC,VQ,ΦV,ΦW,ΦN,ΦO,ΦE,ΦF,ΦJ,List.getElem?_cons_zero,List.getElem?_cons_succ,List.getElem?_nil,List.getElem?_toArray,Ψc,Ψi,ΦP,ΦA,ΦB,ΦT,ΦM,ΦX,ΦK,ΦQ,ΦR,ΦY,ΦG,ΦH,ΦZ,ΦC,ΦD,Ψa,ΦL,Ψj,ΦS,Ψb,Ψd,Ψe,Ψg,Ψh,Ψn,exists_eq_left,exists_eq_left',exists_const,Ψs,Ψo,Ψp,fa_ptr,Ψu,Ψq,Ψw,Ψf,Ψr,Ψt,Ψk,T.elA_24,T.lay_24,T.szA_24,T.zr_24,Tryd.underlying24,ld_ptr,loadVC,loadN,T.szA_3,T.zr_3,Tryd.underlying3,bin_add,bin_adds,bin_rem,st_ptr,storeVC,setN,cells_int,cells_bool,ΨB,Ψz,ΨD,cells_agg,oneB_nil,oneB_cons,one_int,one_bool,one_string,ΨE,one_slice,one_map,one_func,ΨF,ΨC,one_iface,cells_map,cells_func,ΨA,Ψy,ΨG,hP,h11_3,h11_6,w3]
            refine ⟨_, Cell.at 2 rfl rfl, ?_⟩
            try simp (maxSteps := 1000000) only [ΦU,Φy,Φz,ΦI,ev,Φi,Φu,Φn,Φo,Φx,Φw,Φa,Φp,reduceIte,reduceCtorEq,if_true,if_false,Φq,Φk,Φb,Φc,true_and,and_true,false_and,and_false,true_implies,forall_const,false_implies,ne_eq,not_true_eq_false,not_false_eq_true,decide_true,decide_false,Φv,and_self,true_or,or_true,dite_true,dite_false,Φe,Φd,decide_eq_true_eq,decide_eq_false_iff_not,Φf,Φh,Φg,Φj,beq_self_eq_true,Φr,Φs,Φt,Φl,Φm,eq_self,Ψx,Ψl,Ψm,VCops,VQops,Ψv,putVC,VC,VQ,ΦV,ΦW,ΦN,ΦO,ΦE,ΦF,ΦJ,List.getElem?_cons_zero,List.getElem?_cons_succ,List.getElem?_nil,List.getElem?_toArray,Ψc,Ψi,ΦP,ΦA,ΦB,ΦT,ΦM,ΦX,ΦK,ΦQ,ΦR,ΦY,ΦG,ΦH,ΦZ,ΦC,ΦD,Ψa,ΦL,Ψj,ΦS,Ψb,Ψd,Ψe,Ψg,Ψh,Ψn,exists_eq_left,exists_eq_left',exists_const,Ψs,Ψo,Ψp,fa_ptr,Ψu,Ψq,Ψw,Ψf,Ψr,Ψt,Ψk,T.elA_24,T.lay_24,T.szA_24,T.zr_24,Tryd.underlying24,ld_ptr,loadVC,loadN,T.szA_3,T.zr_3,Tryd.underlying3,bin_add,bin_adds,bin_rem,st_ptr,storeVC,setN,cells_int,cells_bool,ΨB,Ψz,ΨD,cells_agg,oneB_nil,oneB_cons,one_int,one_bool,one_string,ΨE,one_slice,one_map,one_func,ΨF,ΨC,one_iface,cells_map,cells_func,ΨA,Ψy,ΨG,hP,h11_3,h11_6,w3]
            refine ⟨2, _, _, _, rfl, by first | decide | simp, .inr (by first | decide | simp), ?_⟩
            try simp (maxSteps := 1000000) only [ΦU,Φy,Φz,ΦI,ev,Φi,Φu,Φn,Φo,Φx,Φw,Φa,Φp,reduceIte,reduceCtorEq,if_true,if_false,Φq,Φk,Φb,Φc,true_and,and_true,false_and,and_false,true_implies,forall_const,false_implies,ne_eq,not_true_eq_false,not_false_eq_true,decide_true,decide_false,Φv,and_self,true_or,or_true,dite_true,dite_false,Φe,Φd,decide_eq_true_eq,decide_eq_false_iff_not,Φf,Φh,Φg,Φj,beq_self_eq_true,Φr,Φs,Φt,Φl,Φm,eq_self,Ψx,Ψl,Ψm,VCops,VQops,Ψv,putVC,VC,VQ,ΦV,ΦW,ΦN,ΦO,ΦE,ΦF,ΦJ,List.getElem?_cons_zero,List.getElem?_cons_succ,List.getElem?_nil,List.getElem?_toArray,Ψc,Ψi,ΦP,ΦA,ΦB,ΦT,ΦM,ΦX,ΦK,ΦQ,ΦR,ΦY,ΦG,ΦH,ΦZ,ΦC,ΦD,Ψa,ΦL,Ψj,ΦS,Ψb,Ψd,Ψe,Ψg,Ψh,Ψn,exists_eq_left,exists_eq_left',exists_const,Ψs,Ψo,Ψp,fa_ptr,Ψu,Ψq,Ψw,Ψf,Ψr,Ψt,Ψk,T.elA_24,T.lay_24,T.szA_24,T.zr_24,Tryd.underlying24,ld_ptr,loadVC,loadN,T.szA_3,T.zr_3,Tryd.underlying3,bin_add,bin_adds,bin_rem,st_ptr,storeVC,setN,cells_int,cells_bool,ΨB,Ψz,ΨD,cells_agg,oneB_nil,oneB_cons,one_int,one_bool,one_string,ΨE,one_slice,one_map,one_func,ΨF,ΨC,one_iface,cells_map,cells_func,ΨA,Ψy,ΨG,hP,h11_3,h11_6,w3]
            refine hK30 _ _ ?_
            try clear hK30 K30
            refine SX.seq_k fun K34 hK34 => ?_
            refine SX.region ?_
            simp (maxSteps := 1000000) only [ΦU,Φy,Φz,ΦI,ev,Φi,Φu,Φn,Φo,Φx,Φw,Φa,Φp,reduceIte,reduceCtorEq,if_true,if_false,Φq,Φk,Φb,Φc,true_and,and_true,false_and,and_false,true_implies,forall_const,false_implies,ne_eq,not_true_eq_false,not_false_eq_true,decide_true,decide_false,Φv,and_self,true_or,or_true,dite_true,dite_false,Φe,Φd,decide_eq_true_eq,decide_eq_false_iff_not,Φf,Φh,Φg,Φj,beq_self_eq_true,Φr,Φs,Φt,Φl,Φm,eq_self,Ψx,Ψl,Ψm,VCops,VQops,Ψv,putVC,VC,VQ,ΦV,ΦW,ΦN,ΦO,ΦE,ΦF,ΦJ,List.getElem?_cons_zero,List.getElem?_cons_succ,List.getElem?_nil,List.getElem?_toArray,Ψc,Ψi,ΦP,ΦA,ΦB,ΦT,ΦM,ΦX,ΦK,ΦQ,ΦR,ΦY,ΦG,ΦH,ΦZ,ΦC,ΦD,Ψa,ΦL,Ψj,ΦS,Ψb,Ψd,Ψe,Ψg,Ψh,Ψn,exists_eq_left,exists_eq_left',exists_const,Ψs,Ψo,Ψp,ld_ptr,loadVC,loadN,Ψu,Ψq,Ψw,Ψf,Ψr,Ψt,Ψk,T.elA_24,T.lay_24,T.szA_24,T.zr_24,Tryd.underlying24,st_ptr,storeVC,setN,cells_int,cells_bool,ΨB,Ψz,ΨD,cells_agg,oneB_nil,oneB_cons,one_int,one_bool,one_string,ΨE,one_slice,one_map,one_func,ΨF,ΨC,one_iface,cells_map,cells_func,ΨA,Ψy,ΨG,hP,h11_3,h11_6]
            refine ⟨_, Cell.at 2 rfl rfl, _, Cell.at 2 rfl rfl, _, Cell.at 2 rfl rfl, _, Cell.at 2 rfl rfl, ?_⟩
            try simp (maxSteps := 1000000) only [ΦU,Φy,Φz,ΦI,ev,Φi,Φu,Φn,Φo,Φx,Φw,Φa,Φp,reduceIte,reduceCtorEq,if_true,if_false,Φq,Φk,Φb,Φc,true_and,and_true,false_and,and_false,true_implies,forall_const,false_implies,ne_eq,not_true_eq_false,not_false_eq_true,decide_true,decide_false,Φv,and_self,true_or,or_true,dite_true,dite_false,Φe,Φd,decide_eq_true_eq,decide_eq_false_iff_not,Φf,Φh,Φg,Φj,beq_self_eq_true,Φr,Φs,Φt,Φl,Φm,eq_self,Ψx,Ψl,Ψm,VCops,VQops,Ψv,putVC,VC,VQ,ΦV,ΦW,ΦN,ΦO,ΦE,ΦF,ΦJ,List.getElem?_cons_zero,List.getElem?_cons_succ,List.getElem?_nil,List.getElem?_toArray,Ψc,Ψi,ΦP,ΦA,ΦB,ΦT,ΦM,ΦX,ΦK,ΦQ,ΦR,ΦY,ΦG,ΦH,ΦZ,ΦC,ΦD,Ψa,ΦL,Ψj,ΦS,Ψb,Ψd,Ψe,Ψg,Ψh,Ψn,exists_eq_left,exists_eq_left',exists_const,Ψs,Ψo,Ψp,ld_ptr,loadVC,loadN,Ψu,Ψq,Ψw,Ψf,Ψr,Ψt,Ψk,T.elA_24,T.lay_24,T.szA_24,T.zr_24,Tryd.underlying24,st_ptr,storeVC,setN,cells_int,cells_bool,ΨB,Ψz,ΨD,cells_agg,oneB_nil,oneB_cons,one_int,one_bool,one_string,ΨE,one_slice,one_map,one_func,ΨF,ΨC,one_iface,cells_map,cells_func,ΨA,Ψy,ΨG,hP,h11_3,h11_6]
            refine ⟨0, _, _, _, rfl, by first | decide | simp, .inr (by first | decide | simp), ?_⟩
            try simp (maxSteps := 1000000) only [ΦU,Φy,Φz,ΦI,ev,Φi,Φu,Φn,Φo,Φx,Φw,Φa,Φp,reduceIte,reduceCtorEq,if_true,if_false,Φq,Φk,Φb,Φc,true_and,and_true,false_and,and_false,true_implies,forall_const,false_implies,ne_eq,not_true_eq_false,not_false_eq_true,decide_true,decide_false,Φv,and_self,true_or,or_true,dite_true,dite_false,Φe,Φd,decide_eq_true_eq,decide_eq_false_iff_not,Φf,Φh,Φg,Φj,beq_self_eq_true,Φr,Φs,Φt,Φl,Φm,eq_self,Ψx,Ψl,Ψm,VCops,VQops,Ψv,putVC,VC,VQ,ΦV,ΦW,ΦN,ΦO,ΦE,ΦF,ΦJ,List.getElem?_cons_zero,List.getElem?_cons_succ,List.getElem?_nil,List.getElem?_toArray,Ψc,Ψi,ΦP,ΦA,ΦB,ΦT,ΦM,ΦX,ΦK,ΦQ,ΦR,ΦY,ΦG,ΦH,ΦZ,ΦC,ΦD,Ψa,ΦL,Ψj,ΦS,Ψb,Ψd,Ψe,Ψg,Ψh,Ψn,exists_eq_left,exists_eq_left',exists_const,Ψs,Ψo,Ψp,ld_ptr,loadVC,loadN,Ψu,Ψq,Ψw,Ψf,Ψr,Ψt,Ψk,T.elA_24,T.lay_24,T.szA_24,T.zr_24,Tryd.underlying24,st_ptr,storeVC,setN,cells_int,cells_bool,ΨB,Ψz,ΨD,cells_agg,oneB_nil,oneB_cons,one_int,one_bool,one_string,ΨE,one_slice,one_map,one_func,ΨF,ΨC,one_iface,cells_map,cells_func,ΨA,Ψy,ΨG,hP,h11_3,h11_6]
            refine hK34 _ _ ?_
            try clear hK34 K34
            refine SX.ret ?_
            simp only [Φi, Φu, Φn, Φo, Φx, Φw, Φa, if_true, if_false, reduceIte, retQ_ret]
            try simp only [res0,res1,res2,res3,resX,resK,oneOr,ld_ptr,loadVC,loadN,ΦT,ΦM,Ψb,Ψg,Ψh,Ψu,Ψq,Ψw,T.elA_24,T.lay_24,T.szA_24,T.zr_24,Tryd.underlying24,ΦU,Φy,Φz,ΦI,ev,Φi,Φu,Φn,Φo,Φx,Φw,Φa,Φp,reduceIte,reduceCtorEq,if_true,if_false,Φq,Φk,Φb,Φc,true_and,and_true,false_and,and_false,true_implies,forall_const,false_implies,ne_eq,not_true_eq_false,not_false_eq_true,decide_true,decide_false,Φv,and_self,true_or,or_true,dite_true,dite_false,Φe,Φd,decide_eq_true_eq,decide_eq_false_iff_not,Φf,Φh,Φg,Φj,beq_self_eq_true,Φr,Φs,Φt,Φl,Φm,eq_self,hP,h11_3,h11_6]
            refine ⟨_, L, (by first | exact Less.refl _ | exact Less.drop _ _ | exact Less.drops (Less.drop _ _) | exact Less.drops (Less.drops (Less.drop _ _)) | exact Less.drops (Less.drops (Less.drops (Less.drop _ _))) | exact Less.drops (Less.drops (Less.drops (Less.drops (Less.drop _ _))))), ⟨_, Cell.at 0 rfl rfl, _, Cell.at 0 rfl rfl, _, Cell.at 0 rfl rfl, _, Cell.at 0 rfl rfl, rfl⟩, ?_, rfl⟩
            rw [step, if_pos ⟨hok, hm3⟩, if_pos hc48, tm262 (by omega) (by omega), ← ho1]
          · clear hX32 hY32 X32 Y32
            refine SX.skip ?_
            simp only [Φi, Φu, Φn, Φo, Φx, Φw, Φa, if_true, if_false, reduceIte]
            refine hK30 _ _ ?_
            try clear hK30 K30
            refine SX.seq_k fun K35 hK35 => ?_
            refine SX.region ?_
            simp (maxSteps := 1000000) only [ΦU,Φy,Φz,ΦI,ev,Φi,Φu,Φn,Φo,Φx,Φw,Φa,Φp,reduceIte,reduceCtorEq,if_true,if_false,Φq,Φk,Φb,Φc,true_and,and_true,false_and,and_false,true_implies,forall_const,false_implies,ne_eq,not_true_eq_false,not_false_eq_true,decide_true,decide_false,Φv,and_self,true_or,or_true,dite_true,dite_false,Φe,Φd,decide_eq_true_eq,decide_eq_false_iff_not,Φf,Φh,Φg,Φj,beq_self_eq_true,Φr,Φs,Φt,Φl,Φm,eq_self,Ψx,Ψl,Ψm,VCops,VQops,Ψv,putVC,VC,VQ,ΦV,ΦW,ΦN,ΦO,ΦE,ΦF,ΦJ,List.getElem?_cons_zero,List.getElem?_cons_succ,List.getElem?_nil,List.getElem?_toArray,Ψc,Ψi,ΦP,ΦA,ΦB,ΦT,ΦM,ΦX,ΦK,ΦQ,ΦR,ΦY,ΦG,ΦH,ΦZ,ΦC,ΦD,Ψa,ΦL,Ψj,ΦS,Ψb,Ψd,Ψe,Ψg,Ψh,Ψn,exists_eq_left,exists_eq_left',exists_const,Ψs,Ψo,Ψp,ld_ptr,loadVC,loadN,Ψu,Ψq,Ψw,Ψf,Ψr,Ψt,Ψk,T.elA_24,T.lay_24,T.szA_24,T.zr_24,Tryd.underlying24,st_ptr,storeVC,setN,cells_int,cells_bool,ΨB,Ψz,ΨD,cells_agg,oneB_nil,oneB_cons,one_int,one_bool,one_string,ΨE,one_slice,one_map,one_func,ΨF,ΨC,one_iface,cells_map,cells_func,ΨA,Ψy,ΨG,hP,h10_3,h10_6]
            refine ⟨_, Cell.at 2 rfl rfl, _, Cell.at 2 rfl rfl, _, Cell.at 2 rfl rfl, _, Cell.at 2 rfl rfl, ?_⟩
            try simp (maxSteps := 1000000) only [ΦU,Φy,Φz,ΦI,ev,Φi,Φu,Φn,Φo,Φx,Φw,Φa,Φp,reduceIte,reduceCtorEq,if_true,if_false,Φq,Φk,Φb,Φc,true_and,and_true,false_and,and_false,true_implies,forall_const,false_implies,ne_eq,not_true_eq_false,not_false_eq_true,decide_true,decide_false,Φv,and_self,true_or,or_true,dite_true,dite_false,Φe,Φd,decide_eq_true_eq,decide_eq_false_iff_not,Φf,Φh,Φg,Φj,beq_self_eq_true,Φr,Φs,Φt,Φl,Φm,eq_self,Ψx,Ψl,Ψm,VCops,VQops,Ψv,putVC,VC,VQ,ΦV,ΦW,ΦN,ΦO,ΦE,ΦF,ΦJ,List.getElem?_cons_zero,List.getElem?_cons_succ,List.getElem?_nil,List.getElem?_toArray,Ψc,Ψi,ΦP,ΦA,ΦB,ΦT,ΦM,ΦX,ΦK,ΦQ,ΦR,ΦY,ΦG,ΦH,ΦZ,ΦC,ΦD,Ψa,ΦL,Ψj,ΦS,Ψb,Ψd,Ψe,Ψg,Ψh,Ψn,exists_eq_left,exists_eq_left',exists_const,Ψs,Ψo,Ψp,ld_ptr,loadVC,loadN,Ψu,Ψq,Ψw,Ψf,Ψr,Ψt,Ψk,T.elA_24,T.lay_24,T.szA_24,T.zr_24,Tryd.underlying24,st_ptr,storeVC,setN,cells_int,cells_bool,ΨB,Ψz,ΨD,cells_agg,oneB_nil,oneB_cons,one_int,one_bool,one_string,ΨE,one_slice,one_map,one_func,ΨF,ΨC,one_iface,cells_map,cells_func,ΨA,Ψy,ΨG,hP,h10_3,h10_6]
            refine ⟨0, _, _, _, rfl, by first | decide | simp, .inr (by first | decide | simp), ?_⟩
            try simp (maxSteps := 1000000) only [ΦU,Φy,Φz,ΦI,ev,Φi,Φu,Φn,Φo,Φx,Φw,Φa,Φp,reduceIte,reduceCtorEq,if_true,if_false,Φq,Φk,Φb,Φc,true_and,and_true,false_and,and_false,true_implies,forall_const,false_implies,ne_eq,not_true_eq_false,not_false_eq_true,decide_true,decide_false,Φv,and_self,true_or,or_true,dite_true,dite_false,Φe,Φd,decide_eq_true_eq,decide_eq_false_iff_not,Φf,Φh,Φg,Φj,beq_self_eq_true,Φr,Φs,Φt,Φl,Φm,eq_self,Ψx,Ψl,Ψm,VCops,VQops,Ψv,putVC,VC,VQ,ΦV,ΦW,ΦN,ΦO,ΦE,ΦF,ΦJ,List.getElem?_cons_zero,List.getElem?_cons_succ,List.getElem?_nil,List.getElem?_toArray,Ψc,Ψi,ΦP,ΦA,ΦB,ΦT,ΦM,ΦX,ΦK,ΦQ,ΦR,ΦY,ΦG,ΦH,ΦZ,ΦC,ΦD,Ψa,ΦL,Ψj,ΦS,Ψb,Ψd,Ψe,Ψg,Ψh,Ψn,exists_eq_left,exists_eq_left',exists_const,Ψs,Ψo,Ψp,ld_ptr,loadVC,loadN,Ψu,Ψq,Ψw,Ψf,Ψr,Ψt,Ψk,T.elA_24,T.lay_24,T.szA_24,T.zr_24,Tryd.underlying24,st_ptr,storeVC,setN,cells_int,cells_bool,ΨB,Ψz,ΨD,cells_agg,oneB_nil,oneB_cons,one_int,one_bool,one_string,ΨE,one_slice,one_map,one_func,ΨF,ΨC,one_iface,cells_map,cells_func,ΨA,Ψy,ΨG,hP,h10_3,h10_6]
            refine hK35 _ _ ?_
            try clear hK35 K35
            refine SX.ret ?_
            simp only [Φi, Φu, Φn, Φo, Φx, Φw, Φa, if_true, if_false, reduceIte, retQ_ret]
            try simp only [res0,res1,res2,res3,resX,resK,oneOr,ld_ptr,loadVC,loadN,ΦT,ΦM,Ψb,Ψg,Ψh,Ψu,Ψq,Ψw,T.elA_24,T.lay_24,T.szA_24,T.zr_24,Tryd.underlying24,ΦU,Φy,Φz,ΦI,ev,Φi,Φu,Φn,Φo,Φx,Φw,Φa,Φp,reduceIte,reduceCtorEq,if_true,if_false,Φq,Φk,Φb,Φc,true_and,and_true,false_and,and_false,true_implies,forall_const,false_implies,ne_eq,not_true_eq_false,not_false_eq_true,decide_true,decide_false,Φv,and_self,true_or,or_true,dite_true,dite_false,Φe,Φd,decide_eq_true_eq,decide_eq_false_iff_not,Φf,Φh,Φg,Φj,beq_self_eq_true,Φr,Φs,Φt,Φl,Φm,eq_self,hP,h10_3,h10_6]
            refine ⟨_, L, (by first | exact Less.refl _ | exact Less.drop _ _ | exact Less.drops (Less.drop _ _) | exact Less.drops (Less.drops (Less.drop _ _)) | exact Less.drops (Less.drops (Less.drops (Less.drop _ _))) | exact Less.drops (Less.drops (Less.drops (Less.drops (Less.drop _ _))))), ⟨_, Cell.at 0 rfl rfl, _, Cell.at 0 rfl rfl, _, Cell.at 0 rfl rfl, _, Cell.at 0 rfl rfl, rfl⟩, ?_, rfl⟩
            rw [step, if_pos ⟨hok, hm3⟩, if_neg hc48, ← ho1, ← hg1]

end Go.Proofs.YtpakphgeichopaaDoor
