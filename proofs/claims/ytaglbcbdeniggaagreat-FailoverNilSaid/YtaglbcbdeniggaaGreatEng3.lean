/- The engine: a small language over an abstract memory, what a piece of code comes to, that the model follows it, and an evaluator for the kernel. -/
import Derived.KernelRfl
import Derived.RowKit3
import Derived.Test.YtaglbcbdeniggaaGreatEng2
/- Part EngVc. -/
namespace Go.Eng
open Go

variable {P : Program}

def vcOps : List ROp := [op 4 (.fa 0 (tp 1)), op 5 (.ld (tp 4)), op 6 (.bin .leq (tp 5) (cv (vi64 3))), mv 7 6, gf 7 8 (.fa 0 (tp 1)), gf 7 9 (.ld (tp 8)), gf 7 10 (.bin .gtr (tp 9) (cv (vi64 60))), op 11 (.pick (tp 7) (cv vt) (tp 10)), mv 12 11, gf 12 13 (.fa 1 (tp 1)), gf 12 14 (.ld (tp 13)), gf 12 15 (.bin .leq (tp 14) (cv (vi64 3))), op 16 (.pick (tp 12) (cv vt) (tp 15)), mv 17 16, gf 17 18 (.fa 1 (tp 1)), gf 17 19 (.ld (tp 18)), gf 17 20 (.bin .gtr (tp 19) (cv (vi64 16))), op 21 (.pick (tp 17) (cv vt) (tp 20)), mv 22 21, gf 22 23 (.fa 1 (tp 1)), gf 22 24 (.ld (tp 23)), gf 22 25 (.fa 0 (tp 1)), gf 22 26 (.ld (tp 25)), gf 22 27 (.bin .gtr (tp 24) (tp 26)), op 28 (.pick (tp 22) (cv vt) (tp 27))]
def vcA (rest : Stm) : AFn := ⟨87, [.t 2], .seq (.reg [op 1 (.box (tp 0)), mc 2 vf]) (.seq (.seq (.reg vcOps) (.cond (tp 28) (.seq (.reg [mc 2 vf]) .ret) .skip)) rest)⟩

theorem get_new (H : AHeap) (o : AObj) : (H.new o).get H.next = some o := by
  show (H.tr.set H.next (some o)).get H.next = some o
  rw [Tr.get_set, if_pos rfl]

theorem vc_runs (hm : P.follows .mixedOrders = true) {f : Nat} {rest : Stm} (hf : cFn P f = some (vcA rest)) (m : Int) (cs : List Value) (H : AHeap) : Runs P f [.agg ⟨.int .i64 m :: vi64 0 :: cs⟩] H fun v H' => v = .bool false ∧ H' = H.new (.cells (.int .i64 m :: vi64 0 :: cs) 0 false) := by
  have hr0 : ∀ {σ : List Value} {x : Rv}, x.ev σ = .pointer (some ⟨H.next, 0, none⟩) → readI σ (H.new (.cells (.int .i64 m :: vi64 0 :: cs) 0 false)) (.ld x) = some (.int .i64 m) := fun hx => by simp only [readI, hx, get_new]; rfl
  have hr1 : ∀ {σ : List Value} {x : Rv}, x.ev σ = .pointer (some ⟨H.next, 1, none⟩) → readI σ (H.new (.cells (.int .i64 m :: vi64 0 :: cs) 0 false)) (.ld x) = some (vi64 0) := fun hx => by simp only [readI, hx, get_new]; rfl
  refine walk_fn hm hf ?_
  show WS P (vcA rest).body ([.agg ⟨.int .i64 m :: vi64 0 :: cs⟩] ++ List.replicate 86 undef) H _
  refine w_sr (r_al (v := .pointer (some ⟨H.next, 0, none⟩)) (o := .cells (.int .i64 m :: vi64 0 :: cs) 0 false) (r := .ptr) rfl rfl (r_mc (r_nil (w_seq (w_sr ?_)))))
  have fin : ∀ (σ : List Value), σ.getD 28 undef = .bool true → σ.length = 87 → WS P (.cond (tp 28) (.seq (.reg [mc 2 vf]) .ret) .skip) σ (H.new (.cells (.int .i64 m :: vi64 0 :: cs) 0 false)) (sq P rest (retQ (vcA rest) fun v H' => v = .bool false ∧ H' = H.new (.cells (.int .i64 m :: vi64 0 :: cs) 0 false))) := fun σ h28 hl => by
    refine w_cond (t := true) h28 (fun _ => w_sr (r_mc (r_nil (w_ret (sq_ret ⟨.inr rfl, [vf], ?_, rfl, rfl⟩))))) (fun h => nomatch h)
    simp only [vcA, readRes, gd_set (show 2 < σ.length by omega), reduceIte, Option.map_some]
  by_cases h1 : m ≤ 3
  · have hle : aBin .leq (.int .i64 m) (vi64 3) = some (.bool true) := by
      show some (Value.bool (decide (m ≤ 3))) = _
      rw [decide_eq_true h1]
    refine r_pu (v := .pointer (some ⟨H.next, 0, none⟩)) (by kernel_rfl) ?_
    refine r_rd (v := .int .i64 m) (hr0 (by kernel_rfl)) ?_
    refine r_pu (v := .bool true) hle ?_
    refine r_mvv (v := .bool true) (by kernel_rfl) ?_
    refine r_gf1 (by kernel_rfl) ?_
    refine r_gf1 (by kernel_rfl) ?_
    refine r_gf1 (by kernel_rfl) ?_
    refine r_pu (v := .bool true) (by kernel_rfl) ?_
    refine r_mvv (v := .bool true) (by kernel_rfl) ?_
    refine r_gf1 (by kernel_rfl) ?_
    refine r_gf1 (by kernel_rfl) ?_
    refine r_gf1 (by kernel_rfl) ?_
    refine r_pu (v := .bool true) (by kernel_rfl) ?_
    refine r_mvv (v := .bool true) (by kernel_rfl) ?_
    refine r_gf1 (by kernel_rfl) ?_
    refine r_gf1 (by kernel_rfl) ?_
    refine r_gf1 (by kernel_rfl) ?_
    refine r_pu (v := .bool true) (by kernel_rfl) ?_
    refine r_mvv (v := .bool true) (by kernel_rfl) ?_
    refine r_gf1 (by kernel_rfl) ?_
    refine r_gf1 (by kernel_rfl) ?_
    refine r_gf1 (by kernel_rfl) ?_
    refine r_gf1 (by kernel_rfl) ?_
    refine r_gf1 (by kernel_rfl) ?_
    refine r_pu (v := .bool true) (by kernel_rfl) ?_
    exact r_nil (fin _ (by kernel_rfl) (by kernel_rfl))
  · have hle : aBin .leq (.int .i64 m) (vi64 3) = some (.bool false) := by
      show some (Value.bool (decide (m ≤ 3))) = _
      rw [decide_eq_false h1]
    by_cases h2 : m > 60
    · have hgt : aBin .gtr (.int .i64 m) (vi64 60) = some (.bool true) := by
        show some (Value.bool (decide (m > 60))) = _
        rw [decide_eq_true h2]
      refine r_pu (v := .pointer (some ⟨H.next, 0, none⟩)) (by kernel_rfl) ?_
      refine r_rd (v := .int .i64 m) (hr0 (by kernel_rfl)) ?_
      refine r_pu (v := .bool false) hle ?_
      refine r_mvv (v := .bool false) (by kernel_rfl) ?_
      refine r_gf0 (by kernel_rfl) ?_
      refine i_pure (v := .pointer (some ⟨H.next, 0, none⟩)) rfl (by kernel_rfl) ?_
      refine r_gf0 (by kernel_rfl) ?_
      refine i_read (v := .int .i64 m) rfl (hr0 (by kernel_rfl)) ?_
      refine r_gf0 (by kernel_rfl) ?_
      refine i_pure (v := .bool true) rfl hgt ?_
      refine r_pu (v := .bool true) (by kernel_rfl) ?_
      refine r_mvv (v := .bool true) (by kernel_rfl) ?_
      refine r_gf1 (by kernel_rfl) ?_
      refine r_gf1 (by kernel_rfl) ?_
      refine r_gf1 (by kernel_rfl) ?_
      refine r_pu (v := .bool true) (by kernel_rfl) ?_
      refine r_mvv (v := .bool true) (by kernel_rfl) ?_
      refine r_gf1 (by kernel_rfl) ?_
      refine r_gf1 (by kernel_rfl) ?_
      refine r_gf1 (by kernel_rfl) ?_
      refine r_pu (v := .bool true) (by kernel_rfl) ?_
      refine r_mvv (v := .bool true) (by kernel_rfl) ?_
      refine r_gf1 (by kernel_rfl) ?_
      refine r_gf1 (by kernel_rfl) ?_
      refine r_gf1 (by kernel_rfl) ?_
      refine r_gf1 (by kernel_rfl) ?_
      refine r_gf1 (by kernel_rfl) ?_
      refine r_pu (v := .bool true) (by kernel_rfl) ?_
      exact r_nil (fin _ (by kernel_rfl) (by kernel_rfl))
    · have hgt : aBin .gtr (.int .i64 m) (vi64 60) = some (.bool false) := by
        show some (Value.bool (decide (m > 60))) = _
        rw [decide_eq_false h2]
      refine r_pu (v := .pointer (some ⟨H.next, 0, none⟩)) (by kernel_rfl) ?_
      refine r_rd (v := .int .i64 m) (hr0 (by kernel_rfl)) ?_
      refine r_pu (v := .bool false) hle ?_
      refine r_mvv (v := .bool false) (by kernel_rfl) ?_
      refine r_gf0 (by kernel_rfl) ?_
      refine i_pure (v := .pointer (some ⟨H.next, 0, none⟩)) rfl (by kernel_rfl) ?_
      refine r_gf0 (by kernel_rfl) ?_
      refine i_read (v := .int .i64 m) rfl (hr0 (by kernel_rfl)) ?_
      refine r_gf0 (by kernel_rfl) ?_
      refine i_pure (v := .bool false) rfl hgt ?_
      refine r_pu (v := .bool false) (by kernel_rfl) ?_
      refine r_mvv (v := .bool false) (by kernel_rfl) ?_
      refine r_gf0 (by kernel_rfl) ?_
      refine i_pure (v := .pointer (some ⟨H.next, 1, none⟩)) rfl (by kernel_rfl) ?_
      refine r_gf0 (by kernel_rfl) ?_
      refine i_read (v := vi64 0) rfl (hr1 (by kernel_rfl)) ?_
      refine r_gf0 (by kernel_rfl) ?_
      refine i_pure (v := .bool true) rfl (by kernel_rfl) ?_
      refine r_pu (v := .bool true) (by kernel_rfl) ?_
      refine r_mvv (v := .bool true) (by kernel_rfl) ?_
      refine r_gf1 (by kernel_rfl) ?_
      refine r_gf1 (by kernel_rfl) ?_
      refine r_gf1 (by kernel_rfl) ?_
      refine r_pu (v := .bool true) (by kernel_rfl) ?_
      refine r_mvv (v := .bool true) (by kernel_rfl) ?_
      refine r_gf1 (by kernel_rfl) ?_
      refine r_gf1 (by kernel_rfl) ?_
      refine r_gf1 (by kernel_rfl) ?_
      refine r_gf1 (by kernel_rfl) ?_
      refine r_gf1 (by kernel_rfl) ?_
      refine r_pu (v := .bool true) (by kernel_rfl) ?_
      exact r_nil (fin _ (by kernel_rfl) (by kernel_rfl))

/-- A call of ValidConfig with a configuration without a width. -/
noncomputable def vcX (vs : List Value) (H : AHeap) : Option (KV → Bool) :=
  match vs with
  | [.agg ⟨.int .i64 m :: .int .i64 (.ofNat 0) :: cs⟩] => some fun k => newK (.cells (.int .i64 m :: vi64 0 :: cs) 0 false) H fun H' => k (.bool false) H'
  | _ => none
theorem vcX_ok (hm : P.follows .mixedOrders = true) {f : Nat} {rest : Stm} (hf : cFn P f = some (vcA rest)) (vs : List Value) (H : AHeap) (m : KV → Bool) (k : KV) (hx : vcX vs H = some m) (hk : m k = true) : Runs P f vs H fun v H' => k v H' = true := by
  unfold vcX at hx
  split at hx
  · rename_i n cs
    cases hx
    have h := newK_eq (k := fun H' => k (.bool false) H') hk
    refine Runs.mono ?_ (vc_runs hm hf n cs H)
    rintro v H' ⟨rfl, rfl⟩
    exact h
  · cases hx

end Go.Eng

/- Part EngTop. -/
namespace Go.Eng
open Go

variable {P : Program}

theorem and2 {a b : Bool} (h : a = true) (k : b = true) : (a && b) = true := by rw [h, k]; rfl

def mu0 : Mu := fun N => if N = 0 then some .dead else none

theorem h0_get (N : Nat) : (hOf [(0, .dead)] 1).get N = if N = 0 then some .dead else none := by
  show (AHeap.set ⟨.lf, 1⟩ 0 .dead).get N = _
  rw [AHeap.get_set]
  split
  · rfl
  · exact Tr.get_lf N

theorem hr_mu0 (w : World) : HR P mu0 (hOf [(0, .dead)] 1) w := by
  refine ⟨fun N => ?_, fun N => ?_, fun N b off esz csz h => ?_, fun N M b off esz csz off' esz' csz' h => ?_, fun N h => ?_, ?_⟩
  · rw [h0_get]; unfold mu0; split <;> simp
  · rw [h0_get]; unfold mu0; split <;> simp
  · unfold mu0 at h; split at h <;> cases h
  · unfold mu0 at h; split at h <;> cases h
  · have h : 1 ≤ N := h
    rw [h0_get, if_neg (by omega)]
  · rw [h0_get]; rfl

theorem kept_of_step {μ' : Mu} {w w' : World} (h : Step mu0 w μ' w') : w.keptBut w' (fun _ => False) := by
  refine ⟨h.os, h.output, fun i hi => ?_⟩
  have e : w'.heap[i]? = w.heap[i]? := h.frame i hi fun M off esz csz hM => by
    unfold mu0 at hM; split at hM <;> cases hM
  rw [e]
  exact (World.keptBut_refl w (fun _ => False)).2.2 i hi

/-- A run on the empty memory, as a call of the model: true, and nothing old is changed. -/
theorem closed_calls {f : FuncId} {args : List Value} (ha : args.all isAtom = true) (hr : Runs P f args (hOf [(0, .dead)] 1) fun v _ => v = .bool true) (w : World) : Calls P f args.toArray w fun e w' => e = .returned (.bool true) ∧ w.keptBut w' (fun _ => False) := by
  refine calls_mono (fun e w' hp => ?_) (hr.2 mu0 w args.toArray (hr_mu0 w) (VRs.atoms ha))
  cases e with
  | returned v' =>
    obtain ⟨v, H', μ', rfl, hv, _, hst⟩ := hp
    refine ⟨?_, kept_of_step hst⟩
    cases hv
    rfl
  | panicked => exact hp.elim
  | outgrown => exact hp.elim

section
variable {H : Type} {enc : TypeId × Value → H}
/-- What a law's row asks behind the call, from that nothing old is changed. -/
theorem post_kept {f : Func} {s : ChangeSpec} {apart fresh handsOn : Bool} {W W' : World} {args : Array Value} {v : Value} {ds gs : List (DataW H)} {before pa pv : List MemPlace}
    (hW : DataW.Whole enc P f.params.toList s.vars apart W args.toList ds gs before)
    (hres : ∀ (b : Nat) (sp : Nat → Bool) (hd : Bool), DataW.TrodAll enc P W' b sp hd f.resultTypes.toList (v.resultList f.resultTypes.size) (s.fn H (ds ++ gs)).results [])
    (hargs : ∀ sp : Nat → Bool, (∀ p ∈ before, sp p.block = true) → DataW.TrodAll enc P W' 0 sp true f.params.toList args.toList (s.fn H (ds ++ gs)).args pa)
    (hvars : ∀ sp : Nat → Bool, (∀ p ∈ before, sp p.block = true) → DataW.TrodVars enc P W' sp s.vars (s.fn H (ds ++ gs)).vars pv)
    (hk : W.keptBut W' (fun _ => False)) : s.post enc P f apart fresh handsOn false W args v W' := by
  have hold : ∀ p ∈ before, (fun b => decide (b < W.heap.size)) p.block = true := fun p hp => by simpa using hW.lt p hp
  exact ⟨ds, gs, before, [], pa, pv, hW, hres _ _ _, hargs _ hold, hvars _ hold, World.keptBut_mono (fun p hp => hp.elim) hk, fun h => by cases h⟩
end

end Go.Eng
