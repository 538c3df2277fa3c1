/- A part of the proof of OpsLinesCardSaid. -/
import Derived.Test.YthhogfnghaikaaaDoorCSxSound
set_option linter.unusedVariables false
set_option linter.unusedSimpArgs false
namespace Go.SX
open Go.RowKit
section
variable {Γ : Ctx} {T : Env} {L : Hp}

theorem andThen_assoc {α β γ : Type} (r : Result α) (f : α → World → Result β) (g : β → World → Result γ) : (r.andThen f).andThen g = r.andThen (fun a w => (f a w).andThen g) := by cases r <;> rfl
theorem bytes_of_fold : ∀ (l : List UInt8) (s : ByteArray), ((l.map fun b => (b.toNat : Int)).foldl (fun (r : ByteArray) (n : Int) => r.push (UInt8.ofNat n.toNat)) s) = ⟨s.data ++ l.toArray⟩ := by
  intro l
  induction l with
  | nil => intro s; cases s; simp
  | cons b l ih =>
    intro s
    simp only [List.map_cons, List.foldl_cons, Int.toNat_natCast]
    rw [ih]
    cases s
    simp [ByteArray.push]

theorem convVC_sound {s d : TypeId} {x : Value} {K : Value → Prop} {D : Prop} (h : convVC Γ s d x L K D) : (∃ v, K v ∧ ∀ w, Inv Γ L w → (convert s d x).run Γ.P w = .ok v w) ∨ D := by
  unfold convVC at h
  split at h
  · split at h
    · rename_i d0 k' hs hd
      refine .inl ⟨_, h, fun w _ => ?_⟩
      simp [convert, run_underlying hs, run_underlying hd, Conv.intToInt]
    · exact .inr h
  · rename_i a len cap
    split at h
    · rename_i e hs hd
      obtain ⟨he, l, hl, hc, hk⟩ := h
      refine .inl ⟨_, hk, fun w hi => ?_⟩
      rw [run_convert_bytes_string w s d e _ _ _ hs he hd]
      have hload : (loadCells a len).run Γ.P w = .ok ((l.map fun b => (b.toNat : Int)).map (Value.int .u8)).toArray w := by
        have := run_loadCells_list (P := Γ.P) w a ((l.map fun b => (b.toNat : Int)).map (Value.int .u8)) (fun j v hj => by
          simp only [List.getElem?_map] at hj
          cases hb : l[j]? with
          | none => simp [hb] at hj
          | some b =>
            simp [hb] at hj
            subst hj
            obtain ⟨hlt, rfl⟩ := List.getElem?_eq_some_iff.1 hb
            exact (hc j hlt).real hi)
        simpa [hl] using this
      rw [run_bytesToString w a len cap _ hload, bytes_of_fold]
      simp
    · exact .inr h
  · split at h
    · rename_i e hs hd
      obtain ⟨he, hk⟩ := h
      refine .inl ⟨_, hk, fun w hi => ?_⟩
      exact run_convert_bytes_nil w s e hs he _ _ d hd
    · exact .inr h
  · exact .inr h

theorem optI_spec {d l : Int} {x : Option Value} (h : optI d x = some l) : (x = none ∧ l = d) ∨ ∃ k, x = some (.int k l) := by
  unfold optI at h
  split at h
  · exact .inl ⟨rfl, by simpa using h.symm⟩
  · simp at h; subst h; exact .inr ⟨_, rfl⟩
  · cases h

theorem run_sliceBound {P : Program} {w : World} {k : IntKind} {i : Int} {y : Nat} {c : BoundsCode} (h0 : 0 ≤ i) (h1 : i ≤ y) : (Instr.sliceBound (.int k i) y c).run P w = .ok i.toNat w := by
  simp [Instr.sliceBound, asIntOf, h0, h1]
theorem run_sliceBounds {P : Program} {w : World} {b : Bool} {len cap : Nat} {lo hi : Option Value} {l h : Int} (hl : optI 0 lo = some l) (hh : optI len hi = some h) (h0 : 0 ≤ l) (h1 : l ≤ h) (h2 : h ≤ cap) (h3 : hi.isSome ∨ len ≤ cap) :
    (Instr.sliceBounds b len cap lo hi none).run P w = .ok (l.toNat, h.toNat, cap) w := by
  rcases optI_spec hl with ⟨rfl, rfl⟩ | ⟨k, rfl⟩ <;> rcases optI_spec hh with ⟨rfl, rfl⟩ | ⟨k', rfl⟩
  · simp [Instr.sliceBounds]
  · simp [Instr.sliceBounds, run_sliceBound (show 0 ≤ h by omega) h2]
  · simp [Instr.sliceBounds, run_sliceBound h0 h1]
  · have e : l ≤ ((h.toNat : Nat) : Int) := by omega
    simp [Instr.sliceBounds, run_sliceBound (show 0 ≤ h by omega) h2, run_sliceBound h0 e]

theorem sliceVC_sound {P : Program} {t : TypeId} {x : Value} {lo hi mx : Option Value} {K : Value → Prop} {D : Prop} (h : sliceVC P t x lo hi mx K D) :
    (∃ v, K v ∧ ∀ w, (Instr.sliceAt t x lo hi mx).run P w = .ok v w) ∨ D := by
  unfold sliceVC at h
  split at h
  · rename_i s
    split at h
    · rename_i l hh hu hl hhi
      obtain ⟨⟨h0, h1, h2⟩, hk⟩ := h
      refine .inl ⟨_, hk, fun w => ?_⟩
      have hb := run_sliceBounds (P := P) (w := w) (b := false) (len := s.size) (cap := s.size) hl hhi h0 h1 h2 (.inr (Nat.le_refl _))
      simp [Instr.sliceAt, Instr.slice, run_underlying hu, hb]
    · exact .inr h
  · rename_i base len cap
    split at h
    · rename_i e sz by_ l hh hs hl hhi
      obtain ⟨⟨h3, h0, h1, h2⟩, hk⟩ := h
      obtain ⟨hu, i, hi1, hi2, hi3⟩ := elS_some hs
      refine .inl ⟨_, hk, fun w => ?_⟩
      have hb := run_sliceBounds (P := P) (w := w) (b := true) (len := len) (cap := cap) hl hhi h0 h1 h2 h3
      simp [Instr.sliceAt, Instr.slice, run_underlying hu, hb, sizeOf_info hi1, hi2, cutA]
    · exact .inr h
  · rename_i a
    split at h
    · rename_i n e sz ag l hs hl
      obtain ⟨⟨h0, h1⟩, hk⟩ := h
      obtain ⟨hu, hz⟩ := elA_some hs
      refine .inl ⟨_, hk, fun w => ?_⟩
      have hb := run_sliceBounds (P := P) (w := w) (b := false) (len := n) (cap := n) (hi := none) hl rfl h0 h1 (Int.le_refl _) (.inr (Nat.le_refl _))
      simp [Instr.sliceAt, run_underlying hu, Instr.sureAddr, hb, run_sizeOf hz, cutA]
      split <;> simp_all
    · rename_i n e sz ag l k hh hs hl
      obtain ⟨⟨h0, h1, h2⟩, hk⟩ := h
      obtain ⟨hu, hz⟩ := elA_some hs
      refine .inl ⟨_, hk, fun w => ?_⟩
      have hb := run_sliceBounds (P := P) (w := w) (b := false) (len := n) (cap := n) (hi := some (.int k hh)) hl rfl h0 h1 h2 (.inr (Nat.le_refl _))
      simp [Instr.sliceAt, run_underlying hu, Instr.sureAddr, hb, run_sizeOf hz, cutA]
      split <;> simp_all
    · exact .inr h
  · exact .inr h

theorem fieldVC_sound {P : Program} {t : TypeId} {x : Value} {f : Nat} {K : Value → Prop} {D : Prop} (h : fieldVC P t x f K D) : (∃ v, K v ∧ ∀ w, (Instr.field t x f).run P w = .ok v w) ∨ D := by
  unfold fieldVC at h
  split at h
  · split at h
    · rename_i cs l hl
      split at h
      · rename_i off sz ag hf
        obtain ⟨fs, fd, hu, hfd, ho, hs⟩ := lay_at hl hf
        obtain ⟨v, hk, hv⟩ := partVC_sound hs h
        refine .inl ⟨v, hk, fun w => ?_⟩
        simp [Instr.field, run_underlying hu, hfd, asAgg, ho, hv]
      · exact .inr h
    · exact .inr h
  · exact .inr h
theorem indexVC_sound {P : Program} {t : TypeId} {x i : Value} {K : Value → Prop} {D : Prop} (h : indexVC P t x i K D) : (∃ v, K v ∧ ∀ w, (Instr.index t x i).run P w = .ok v w) ∨ D := by
  unfold indexVC at h
  split at h
  · split at h
    · rename_i cs k i n e sz ag hs
      obtain ⟨⟨h0, h1⟩, h⟩ := h
      obtain ⟨hu, hz⟩ := elA_some hs
      obtain ⟨v, hk, hv⟩ := partVC_sound hz h
      refine .inl ⟨v, hk, fun w => ?_⟩
      simp [Instr.index, run_underlying hu, asIntOf, h0, h1, run_sizeOf hz, hv]
    · exact .inr h
  · rename_i s k i
    obtain ⟨hu, h0, b, hb, hk⟩ := h
    refine .inl ⟨_, hk, fun w => ?_⟩
    have : s[i.toNat]? = some b := by
      obtain ⟨hlt, he⟩ := List.getElem?_eq_some_iff.1 hb
      have hlt' : i.toNat < s.size := by simpa using hlt
      rw [getElem?_pos s i.toNat hlt']
      exact congrArg some (by simp only [Array.getElem_toList] at he; exact he)
    simp [Instr.index, run_underlying hu, asIntOf, h0, this]
  · exact .inr h
theorem indexAddrVC_sound {P : Program} {t : TypeId} {x i : Value} {K : Value → Prop} {D : Prop} (h : indexAddrVC P t x i K D) : (∃ v, K v ∧ ∀ w, (Instr.indexAt t x i).run P w = .ok v w) ∨ D := by
  unfold indexAddrVC at h
  split at h
  · split at h
    · rename_i base len cap k i e sz by_ hs
      obtain ⟨⟨h0, h1⟩, a, rfl, hk⟩ := h
      obtain ⟨hu, i', hi1, hi2, hi3⟩ := elS_some hs
      refine .inl ⟨_, hk, fun w => ?_⟩
      simp [Instr.indexAt, run_underlying hu, asIntOf, h0, h1, sizeOf_info hi1, hi2]
    · exact .inr h
  · split at h
    · rename_i a k i n e sz ag hs
      obtain ⟨⟨h0, h1⟩, hk⟩ := h
      obtain ⟨hu, hz⟩ := elA_some hs
      refine .inl ⟨_, hk, fun w => ?_⟩
      simp [Instr.indexAt, run_underlying hu, asIntOf, Instr.sureAddr, h0, h1, run_sizeOf hz]
    · exact .inr h
  · exact .inr h

theorem zr_some {P : Program} {t : TypeId} {z : List Value} (h : zr P t = some z) (w : World) : ∃ v, (zeroValue t).run P w = .ok v w ∧ v.cells.toList = z := by
  unfold zr at h
  obtain ⟨v, hv, rfl⟩ := Option.map_eq_some_iff.1 h
  obtain ⟨i, hi, hz⟩ := Option.bind_eq_some_iff.1 hv
  exact ⟨v, by simp [zeroValue, typeInfo, hi, hz], rfl⟩

theorem run_mapM_places {P : Program} {w : World} : ∀ (fs : List Field) (l : List (Nat × Nat × Bool)), fs.mapM (layF P) = some l →
    (fs.mapM (fun f => (do pure (f.offset, ← sizeOf f.type) : Sem (Nat × Nat)))).run P w = .ok (l.map fun p => (p.1, p.2.1)) w := by
  intro fs
  induction fs with
  | nil => intro l h; simp at h; subst h; simp
  | cons f fs ih =>
    intro l h
    simp only [List.mapM_cons, bind, Option.bind] at h
    cases hf : layF P f with
    | none => simp [hf] at h
    | some b =>
      simp only [hf] at h
      cases hl : fs.mapM (layF P) with
      | none => simp [hl] at h
      | some r' =>
        simp [hl] at h
        subst h
        obtain ⟨p, hp, he⟩ := Option.map_eq_some_iff.1 hf
        have hsz := run_sizeOf (P := P) (t := f.type) (n := p.1) (b := p.2) hp w
        have hih := ih r' hl
        simp only [List.mapM_cons, Sem.run_bind, hsz, Result.andThen_ok, Sem.run_pure, hih]
        simp [← he]
theorem buildVC_sound {P : Program} {t : TypeId} {parts : List (Nat × Value)} {K : Value → Prop} {D : Prop} (h : buildVC P t parts K D) : (∃ v, K v ∧ ∀ w, (Instr.build t parts.toArray).run P w = .ok v w) ∨ D := by
  unfold buildVC at h
  split at h
  · rename_i l z hl hz
    split at h
    · rename_i cs hf
      obtain ⟨fs, hu, hm⟩ := lay_some hl
      refine .inl ⟨_, h, fun w => ?_⟩
      obtain ⟨v, hv, hc⟩ := zr_some hz w
      have hp := run_mapM_places (P := P) (w := w) _ _ hm
      have hfill := fillL_sound _ _ _ hf
      have hplace : (fun i => (l.map fun p => (p.1, p.2.1)).toArray[i]?) = placeL l := by
        funext i
        simp only [placeL, List.getElem?_toArray, List.getElem?_map]
        cases l[i]? <;> simp
      have hc' : v.cells = z.toArray := by rw [← hc]
      rw [← hplace] at hfill
      have hm2 : (fs.mapM (fun f => (do pure (f.offset, ← sizeOf f.type) : Sem (Nat × Nat)))).run P w = .ok (l.map fun p => (p.1, p.2.1)).toArray w := by
        rw [Array.mapM_eq_mapM_toList, Sem.run_map, hp]
        rfl
      simp only [Instr.build, Sem.run_bind, hv, Result.andThen_ok, run_underlying hu, hm2, hc', hfill]
      simp
    · exact .inr h
  · split at h
    · rename_i n e sz ag z hs hz
      split at h
      · rename_i cs hf
        obtain ⟨hu, hz2⟩ := elA_some hs
        refine .inl ⟨_, h, fun w => ?_⟩
        obtain ⟨v, hv, hc⟩ := zr_some hz w
        have hc' : v.cells = z.toArray := by rw [← hc]
        have hfill := fillL_sound _ _ _ hf
        simp only [Instr.build, Sem.run_bind, hv, Result.andThen_ok, run_underlying hu, run_sizeOf hz2, hc', hfill]
        simp
      · exact .inr h
    · exact .inr h

theorem mapT_some {P : Program} {t : TypeId} {kd : TypeDesc} {z : Option Value} (h : mapT P t = some (kd, z)) :
    ∃ k e, P.underlying t = some (.map k e) ∧ P.underlying k = some kd ∧ z = (P.info? e).bind (·.zero) ∧ ((∃ kk, kd = .int kk) ∨ kd = .string) := by
  unfold mapT at h
  split at h
  · rename_i k e hu
    split at h
    · rename_i kk hk
      cases h
      exact ⟨k, e, hu, hk, rfl, .inl ⟨_, rfl⟩⟩
    · rename_i hk
      cases h
      exact ⟨k, e, hu, hk, rfl, .inr rfl⟩
    · cases h
  · cases h
theorem run_checkKey {P : Program} {k : TypeId} {kd : TypeDesc} (hk : P.underlying k = some kd) (hs : (∃ kk, kd = .int kk) ∨ kd = .string) (b : Bool) (v : Value) (w : World) : (Instr.checkKey b 10000 k v).run P w = .ok () w := by
  rcases hs with ⟨kk, rfl⟩ | rfl
  · show ((do match ← underlying k, v with | _, _ => _ : Sem Unit)).run P w = _
    simp [Sem.run_bind, run_underlying hk]
  · show ((do match ← underlying k, v with | _, _ => _ : Sem Unit)).run P w = _
    simp [Sem.run_bind, run_underlying hk]
theorem run_findKey {P : Program} {k : TypeId} {kd : TypeDesc} (hk : P.underlying k = some kd) {v : Value} {es : List MapEntry} {fr : Option (Nat × Value)} (hf : Instr.findNow kd v es 0 = some fr) (w : World) : (Instr.findKey k v es).run P w = .ok fr w := by
  simp [Instr.findKey, Sem.run_bind, run_underlying hk, hf]
theorem run_zero {P : Program} {e : TypeId} {z0 : Value} (h : (P.info? e).bind (·.zero) = some z0) (w : World) : (zeroValue e).run P w = .ok z0 w := by
  obtain ⟨i, hi, hz⟩ := Option.bind_eq_some_iff.1 h
  simp [zeroValue, typeInfo, hi, hz]
theorem run_getMap {P : Program} {w : World} {r : Nat} {es : Array MapEntry} {ck : Nat} (h : w.heap[r]? = some (.map es ck)) : (getObj r).run P w = .ok (.map es ck) w := by
  simp [getObj, Sem.run, h]
theorem run_getIter {P : Program} {w : World} {r : Nat} {s : ByteArray} {p : Nat} (h : w.heap[r]? = some (.stringIter s p)) : (getObj r).run P w = .ok (.stringIter s p) w := by
  simp [getObj, Sem.run, h]
theorem lkVC_sound {t : TypeId} {x k : Value} {ok : Bool} {K : Value → Prop} {D : Prop} (h : lkVC Γ t x k ok L K D) :
    (∃ v, K v ∧ ∀ w, Inv Γ L w → (Instr.lookup t x k ok).run Γ.P w = .ok v w) ∨ D := by
  unfold lkVC at h
  split at h
  · obtain ⟨kd, z, hm, z0, hz, hk⟩ := h
    obtain ⟨kt, e, hu, hkt, rfl, hs⟩ := mapT_some hm
    refine .inl ⟨_, hk, fun w hi => ?_⟩
    have hf : Instr.findNow kd k [] 0 = some none := rfl
    have := run_findKey hkt hf w
    simp [Instr.lookup, Sem.run_bind, run_underlying hu, run_checkKey hkt hs, this, run_zero hz]
  · rename_i r
    obtain ⟨kd, z, hm, i, es, ck, hL, fr, hf, hk⟩ := h
    obtain ⟨kt, e, hu, hkt, rfl, hs⟩ := mapT_some hm
    cases fr with
    | none =>
      obtain ⟨z0, hz, hk⟩ := hk
      refine .inl ⟨_, hk, fun w hi => ?_⟩
      have h1 := hi.blk _ _ (List.mem_of_getElem? hL)
      have := run_findKey hkt hf w
      simp [Instr.lookup, Sem.run_bind, run_underlying hu, run_checkKey hkt hs, run_getMap h1, this, run_zero hz]
    | some p =>
      obtain ⟨j, v⟩ := p
      refine .inl ⟨_, hk, fun w hi => ?_⟩
      have h1 := hi.blk _ _ (List.mem_of_getElem? hL)
      have := run_findKey hkt hf w
      simp [Instr.lookup, Sem.run_bind, run_underlying hu, run_checkKey hkt hs, run_getMap h1, this]
  · exact .inr h
theorem VQ_sound {o : Oper} {K : Value → Prop} (h : VQ Γ o T L K) : YieldsQ Γ o T L K := by
  unfold VQ at h
  split at h
  · rename_i x hop
    exact .mk _ h fun w hi => by simp [execOp, hop]
  · rename_i x hop
    exact .mk _ h fun w hi => by simp [execOp, hop]
  · rename_i c a b hop
    unfold pickVC at h
    split at h
    · rename_i c' hc
      refine .mk _ h fun w hi => ?_
      simp [execOp, hop, hc, asBool]
    · first | exact h | exact (h : False).elim
  · rename_i t a hop
    unfold ldVC at h
    split at h
    · rename_i ad ha
      obtain ⟨v, hk, hv⟩ := loadVC_sound h
      refine .mk v hk fun w hi => ?_
      simp [execOp, hop, ha, Instr.loadAt, Instr.sureAddr, hv w hi]
    · first | exact h | exact (h : False).elim
  · rename_i x hop
    unfold nilVC at h
    split at h
    · rename_i a ha
      exact .mk _ h fun w hi => by simp [execOp, hop, ha]
    · first | exact h | exact (h : False).elim
  · rename_i op t x y ty hop
    rcases binVC_sound h with ⟨v, hk, hv⟩ | h
    · refine .mk v hk fun w hi => ?_
      have := hv x y w
      rw [Sem.run_bind] at this
      simp only [execOp, hop, Sem.run_bind]
      rw [this]
      rfl
    · first | exact h | exact (h : False).elim
  · rename_i op t x hop
    rcases unVC_sound (P := Γ.P) h with ⟨v, hk, hv⟩ | h
    · exact .mk v hk fun w hi => by simp [execOp, hop, hv]
    · first | exact h | exact (h : False).elim
  · rename_i s d x hop
    rcases convVC_sound h with ⟨v, hk, hv⟩ | h
    · exact .mk v hk fun w hi => by simp [execOp, hop, hv w hi]
    · first | exact h | exact (h : False).elim
  · rename_i fn first cap hop
    exact .mk _ h fun w hi => by simp [execOp, hop, Instr.makeFunc]
  · rename_i t x f hop
    unfold faVC at h
    split at h
    · rename_i a ha
      split at h
      · rename_i l hl
        split at h
        · rename_i off sz ag hf
          obtain ⟨hsz, hk⟩ := h
          obtain ⟨fs, fd, hu, hfd, ho, hs⟩ := lay_at hl hf
          refine .mk _ hk fun w hi => ?_
          simp [execOp, hop, ha, Instr.fieldAt, run_underlying hu, hfd, Instr.sureAddr, fieldPlace, run_sizeOf hs, hsz, ho]
        · first | exact h | exact (h : False).elim
      · first | exact h | exact (h : False).elim
    · first | exact h | exact (h : False).elim
  · rename_i t x f hop
    rcases fieldVC_sound h with ⟨v, hk, hv⟩ | h
    · exact .mk v hk fun w hi => by simp [execOp, hop, hv]
    · first | exact h | exact (h : False).elim
  · rename_i t x i hop
    rcases indexAddrVC_sound h with ⟨v, hk, hv⟩ | h
    · exact .mk v hk fun w hi => by simp [execOp, hop, hv]
    · first | exact h | exact (h : False).elim
  · rename_i t x i hop
    rcases indexVC_sound h with ⟨v, hk, hv⟩ | h
    · exact .mk v hk fun w hi => by simp [execOp, hop, hv]
    · first | exact h | exact (h : False).elim
  · rename_i t x lo hi mx hop
    rcases sliceVC_sound h with ⟨v, hk, hv⟩ | h
    · exact .mk v hk fun w hi => by simp [execOp, hop, hv]
    · first | exact h | exact (h : False).elim
  · rename_i x i hop
    unfold extVC at h
    split at h
    · rename_i vs hx
      obtain ⟨v, hv, hk⟩ := h
      have hv' : vs[i]? = some v := by rw [← Array.getElem?_toList]; exact hv
      refine .mk v hk fun w _ => ?_
      simp [execOp, hop, hx, Instr.extract, hv']
    · first | exact h | exact (h : False).elim
  · rename_i t x k ok hop
    rcases lkVC_sound h with ⟨v, hk, hv⟩ | h
    · exact .mk v hk fun w hi => by simp [execOp, hop, hv w hi]
    · first | exact h | exact (h : False).elim
  · rename_i t parts hop
    rcases buildVC_sound h with ⟨v, hk, hv⟩ | h
    · refine .mk v hk fun w hi => ?_
      have := hv w
      have e : (parts.toList.map fun p => (p.1, ev T p.2)).toArray = parts.map fun p => (p.1, ev T p.2) := by apply Array.ext'; rw [Array.toList_map]
      rw [e] at this
      simp [execOp, hop, this]
    · first | exact h | exact (h : False).elim
  · rename_i c hop
    have hre : ∀ (w : World), (resolve (ev T) c o.type).run Γ.P w = (resolve (ev T) c o.type).run Γ.P w := fun _ => rfl
    split at h
    · rename_i x ty hcal hargs hty
      have ha : c.args = #[x] := by apply Array.ext'; simpa using hargs
      have ht : c.argTypes = #[ty] := by apply Array.ext'; simpa using hty
      unfold lenVC at h
      split at h
      · rename_i b n cp hx
        obtain ⟨he, hk⟩ := h
        obtain ⟨e, hu⟩ := elS_isSome he
        refine .mk _ hk fun w hi => ?_
        simp [execOp, hop, resolve, hcal, ha, ht, invoke, builtin, Builtin.len_, run_underlying hu, hx, goInt]
      · rename_i s hx
        obtain ⟨hu, hk⟩ := h
        refine .mk _ hk fun w hi => ?_
        simp [execOp, hop, resolve, hcal, ha, ht, invoke, builtin, Builtin.len_, run_underlying hu, hx, goInt]
      · first | exact h | exact (h : False).elim
    · rename_i x ty hcal hargs hty
      have ha : c.args = #[x] := by apply Array.ext'; simpa using hargs
      have ht : c.argTypes = #[ty] := by apply Array.ext'; simpa using hty
      unfold capVC at h
      split at h
      · rename_i b n cp hx
        obtain ⟨he, hk⟩ := h
        obtain ⟨e, hu⟩ := elS_isSome he
        refine .mk _ hk fun w hi => ?_
        simp [execOp, hop, resolve, hcal, ha, ht, invoke, builtin, Builtin.cap_, run_underlying hu, hx, goInt]
      · first | exact h | exact (h : False).elim
    · rename_i tys x y hcal hargs
      have ha : c.args = #[x, y] := by apply Array.ext'; simpa using hargs
      unfold minVC at h
      split at h
      · rename_i k a k' b hx hy
        refine .mk _ h fun w hi => ?_
        simp [execOp, hop, resolve, hcal, ha, invoke, builtin, Builtin.min_, Builtin.min2, hx, hy]
      · first | exact h | exact (h : False).elim
    · rename_i tys x y hcal hargs
      have ha : c.args = #[x, y] := by apply Array.ext'; simpa using hargs
      unfold maxVC at h
      split at h
      · rename_i k a k' b hx hy
        refine .mk _ h fun w hi => ?_
        simp [execOp, hop, resolve, hcal, ha, invoke, builtin, Builtin.max_, Builtin.max2, hx, hy]
      · first | exact h | exact (h : False).elim
    · rename_i f hcal
      unfold qcallVC at h
      split at h
      · rename_i k first cap hf
        obtain ⟨hc, v, hs, hk⟩ := h
        refine ⟨v, hk, .inr ⟨by simp [isCallV, hop, hcal], fun w hi => ?_⟩⟩
        unfold callable at hc
        split at hc
        · rename_i fn hfn
          simp only [Bool.and_eq_true, Bool.not_eq_true', Option.isSome_iff_exists] at hc
          obtain ⟨⟨body, hb⟩, hn⟩ := hc
          have hrun : (execOp (ev T) o).run Γ.P w = .ok (.enter k (first ++ c.args.map (ev T) ++ cap)) w := by
            simp [execOp, hop, resolve, hcal, hf, Deferred.ofValue, invoke, callFunc, hfn, (by simpa using hn : ¬ fn.name = "runtime.NumGoroutine"), hb]
          rw [hrun]
          refine ⟨rfl, (hs w hi).mono ?_⟩
          rintro e w' ⟨v', L', he, hi', rfl, rfl⟩
          exact ⟨he, hi'⟩
        · cases hc
      · first | exact h | exact (h : False).elim
    · first | exact h | exact (h : False).elim
  · first | exact h | exact (h : False).elim
end
end Go.SX
