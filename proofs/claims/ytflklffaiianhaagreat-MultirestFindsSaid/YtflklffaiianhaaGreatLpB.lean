import Derived.Test.YtflklffaiianhaaGreatLpA
/- A text of the proof of MultirestFinds. -/
set_option linter.unusedVariables false
set_option linter.unusedSimpArgs false
namespace Go.P
open Go.Sim (AV AO Hp Ent upd St IC IX Ex OpK CK Wf Out doOp Tab exec Foot wanted put popMark)
def isAnn : POs → Bool
  | .nil => true
  | .lax _ _ r => isAnn r
  | .own _ _ _ r => isAnn r
  | .ownc _ _ _ _ r => isAnn r
  | _ => false
def isNil : POs → Bool
  | .nil => true
  | _ => false
def erC : PC → IC
  | .skip => .skip
  | .reg ops => .reg (erO none ops)
  | .regD ops before => .regD (erO none ops) before
  | .seq a b => match a with
    | .reg ops => if isAnn ops && !isNil ops then erC b else .seq (.reg (erO none ops)) (erC b)
    | a => .seq (erC a) (erC b)
  | .cond c a b => .cond (eX c) (erC a) (erC b)
  | .condJ _ c a b => .cond (eX c) (erC a) (erC b)
  | .block id c => .block id (erC c)
  | .loop _ c => .loop (erC c)
  | .exit id => .exit id
  | .ret => .ret
def okP (N : Nat) : PC → Bool
  | .reg ops => okO N [] false [] ops
  | .regD ops before => okO N [] false [] ops && statOK ((erO none ops).map fun o => cls o.k) before
  | .seq a b => okP N a && okP N b
  | .cond c a b => okX N c && okP N a && okP N b
  | .condJ _ c a b => okX N c && okP N a && okP N b
  | .block _ c => okP N c
  | .loop _ c => okP N c
  | _ => true
theorem ann_er : ∀ {ops : POs} {g : Option (Nat × Bool)}, isAnn ops = true → erO g ops = []
  | .nil, g, _ => rfl
  | .lax _ _ r, g, h => ann_er (ops := r) h
  | .own _ _ _ r, g, h => ann_er (ops := r) h
  | .ownc _ _ _ _ r, g, h => ann_er (ops := r) h
section
variable {T : Tab} {O : Orc}
def Res {R : Type} (T : Tab) (N lim : Nat) (rd : Bool) (c : IC) (C : Cx) (n : Nat) (h : Heap) (t : List AV) (s : Hp) (K : Ex → Env → Heap → Nat → Option R) (r : R) : Prop :=
  ∃ x e' h' n' C' t' s', K x e' h' n' = some r ∧ EnvR C' e' t' ∧ Mem C' n' h' lim s' ∧ t'.length = N ∧ n ≤ n' ∧ Fr C h s C' h' s' ∧ ∃ D, ∀ d, D ≤ d → exec T d lim rd c { t := t, s := s } = some (x, { t := t', s := s' })
variable {R : Type} {N lim : Nat} {rd : Bool}
theorem Tr.nil_inv {σ τ : St} {fs : List Foot} (h : Tr T lim [] σ fs τ) : τ = σ := by cases h; rfl
theorem res_seq {a b : IC} {C : Cx} {n : Nat} {h : Heap} {t : List AV} {s : Hp} {K : Ex → Env → Heap → Nat → Option R} {r : R} {cb : PC}
    (ha : Res T N lim rd a C n h t s (fun x e h n => match x with | .normal => execK O cb e h n K | .exit i => K (.exit i) e h n | .ret => K .ret e h n) r)
    (hb : ∀ C n h e t s, execK O cb e h n K = some r → EnvR C e t → Mem C n h lim s → t.length = N → Res T N lim rd b C n h t s K r) :
    Res T N lim rd (.seq a b) C n h t s K r := by
  obtain ⟨x, e1, h1, n1, C1, t1, s1, k1, k2, k3, k4, k5, k6, D, k7⟩ := ha
  cases x with
  | normal =>
    obtain ⟨x2, e2, h2, n2, C2, t2, s2, q1, q2, q3, q4, q5, q6, D2, q7⟩ := hb C1 n1 h1 e1 t1 s1 k1 k2 k3 k4
    refine ⟨x2, e2, h2, n2, C2, t2, s2, q1, q2, q3, q4, by omega, k6.trans q6, D + D2 + 1, fun d hd => ?_⟩
    obtain ⟨d, rfl⟩ : ∃ d', d = d' + 1 := ⟨d - 1, by omega⟩
    simp only [exec, k7 d (by omega)]
    exact q7 d (by omega)
  | exit i =>
    refine ⟨.exit i, e1, h1, n1, C1, t1, s1, k1, k2, k3, k4, k5, k6, D + 1, fun d hd => ?_⟩
    obtain ⟨d, rfl⟩ : ∃ d', d = d' + 1 := ⟨d - 1, by omega⟩
    simp only [exec, k7 d (by omega)]
  | ret =>
    refine ⟨.ret, e1, h1, n1, C1, t1, s1, k1, k2, k3, k4, k5, k6, D + 1, fun d hd => ?_⟩
    obtain ⟨d, rfl⟩ : ∃ d', d = d' + 1 := ⟨d - 1, by omega⟩
    simp only [exec, k7 d (by omega)]
theorem res_cond {c : IX} {a b : IC} {C : Cx} {n : Nat} {h : Heap} {t : List AV} {s : Hp} {K : Ex → Env → Heap → Nat → Option R} {r : R} {v : Bool} (hc : c.ev t = some (.v (.bool v)))
    (hx : Res T N lim rd (if v then a else b) C n h t s K r) : Res T N lim rd (.cond c a b) C n h t s K r := by
  obtain ⟨x, e1, h1, n1, C1, t1, s1, k1, k2, k3, k4, k5, k6, D, k7⟩ := hx
  refine ⟨x, e1, h1, n1, C1, t1, s1, k1, k2, k3, k4, k5, k6, D + 1, fun d hd => ?_⟩
  obtain ⟨d, rfl⟩ : ∃ d', d = d' + 1 := ⟨d - 1, by omega⟩
  simp only [exec, hc]
  exact k7 d (by omega)
theorem cond_ev {C : Cx} {e : Env} {t : List AV} {c : PX} {vs : List PV} (he : EnvR C e t) (ho : okX N c = true) (hvs : evs e [c] = some vs) {v : Bool} (hv : vs = [.v (.bool v)]) : (eX c).ev t = some (.v (.bool v)) := by
  obtain ⟨ys, h1, h2⟩ := evs_sim he (xs := [c]) (by simpa using ho) hvs
  subst hv
  obtain ⟨y, _, rfl, h3, h4⟩ := h2.inv_cons
  rw [h4.inv_nil, rv_v h3] at h1
  simp only [List.map_cons, List.map_nil, Sim.evs] at h1
  split at h1
  · rename_i ha hb
    cases h1
    exact ha
  · cases h1
theorem loop_sim {c : IC} {pc : PC} {keep : List Nat} {n : Nat} {h0 : Heap} (hd : ∀ k, hget h0 k ≠ none → k < n)
    (hb : ∀ {R' : Type} (K' : Ex → Env → Heap → Nat → Option R') (r' : R') C n h e t s, execK O pc e h n K' = some r' → EnvR C e t → Mem C n h lim s → t.length = N → Res T N lim rd c C n h t s K' r') :
    ∀ (k : Nat) (st : PSt) (C : Cx) (t : List AV) (s : Hp) (x : Ex) (st' : PSt),
      loopN (fun s : PSt => execK O pc s.e s.h n fun x e' h' _ => canonK keep h0 n e' h' fun s' => some (match x with | .normal => (.inl s' : PSt ⊕ (Ex × PSt)) | x => .inr (x, s'))) k st = some (x, st') →
      EnvR C st.e t → Mem C n st.h lim s → t.length = N → (∀ k, hget h0 k = none ↔ hget st.h k = none) →
      ∃ C' t' s', EnvR C' st'.e t' ∧ Mem C' n st'.h lim s' ∧ t'.length = N ∧ Fr C st.h s C' st'.h s' ∧ ∃ D, ∀ d, D ≤ d → exec T d lim rd (.loop c) { t := t, s := s } = some (x, { t := t', s := s' })
  | 0, st, C, t, s, x, st', h, _, _, _, _ => by simp [loopN] at h
  | k + 1, st, C, t, s, x, st', h, he, hM, hN, hkeys => by
    simp only [loopN, Option.bind_eq_some_iff] at h
    obtain ⟨q, hq, h⟩ := h
    have hMm : Mem C n st.h lim { h := .mark :: s.h, n := s.n } := ⟨⟨hM.hr.ob, hM.hr.inj⟩, hM.dom, hM.wf, hM.lim⟩
    obtain ⟨x1, e1, h1, n1, C1, t1, s1, k1, k2, k3, k4, k5, k6, D, k7⟩ := hb _ q C n st.h st.e t _ hq he hMm hN
    have hd' : ∀ k, hget st.h k ≠ none → k < n := fun k hk => hd k (fun hz => hk ((hkeys k).1 hz))
    obtain ⟨st1, w1, w2, w3, w4, w5⟩ := canon_sim hd k3 k2 k1
    have w5' : ∀ k, hget st.h k = none ↔ hget st1.h k = none := fun k => (hkeys k).symm.trans (w5 k)
    have fr1 := Fr.canon hMm k6 w4 w5'
    obtain ⟨m1, m2⟩ := Mem.pop hM w3 fr1 w5'
    cases x1 with
    | normal =>
      simp only [Option.some.injEq] at w1
      subst w1
      simp only at h
      obtain ⟨C', t', s', p1, p2, p3, p4, D2, p5⟩ := loop_sim hd hb k st1 _ t1 _ x st' h w2 m1 k4 w5
      refine ⟨C', t', s', p1, p2, p3, m2.trans p4, D + D2 + 1, fun d hdd => ?_⟩
      obtain ⟨d, rfl⟩ : ∃ d', d = d' + 1 := ⟨d - 1, by omega⟩
      rw [exec]
      simp only [k7 d (by omega)]
      exact p5 d (by omega)
    | exit i =>
      simp only [Option.some.injEq] at w1
      subst w1
      simp only [Option.some.injEq, Prod.mk.injEq] at h
      obtain ⟨rfl, rfl⟩ := h
      refine ⟨_, t1, _, w2, m1, k4, m2, D + 1, fun d hdd => ?_⟩
      obtain ⟨d, rfl⟩ : ∃ d', d = d' + 1 := ⟨d - 1, by omega⟩
      rw [exec]
      simp only [k7 d (by omega)]
    | ret =>
      simp only [Option.some.injEq] at w1
      subst w1
      simp only [Option.some.injEq, Prod.mk.injEq] at h
      obtain ⟨rfl, rfl⟩ := h
      refine ⟨_, t1, _, w2, m1, k4, m2, D + 1, fun d hdd => ?_⟩
      obtain ⟨d, rfl⟩ : ∃ d', d = d' + 1 := ⟨d - 1, by omega⟩
      rw [exec]
      simp only [k7 d (by omega)]
theorem execK_sim (hO : ∀ f xs v, O f xs = some v → FnOK T f xs v) : ∀ (c : PC) {R : Type} (K : Ex → Env → Heap → Nat → Option R) (r : R) (C : Cx) (n : Nat) (h : Heap) (e : Env) (t : List AV) (s : Hp), execK O c e h n K = some r → EnvR C e t → Mem C n h lim s → t.length = N →
    okP N c = true → Res T N lim rd (erC c) C n h t s K r
  | .skip, R, K, r, C, n, h, e, t, s, hk, he, hM, hN, ho => ⟨.normal, e, h, n, C, t, s, hk, he, hM, hN, Nat.le_refl _, .refl _ _ _, 1, fun d hd => by
      obtain ⟨d, rfl⟩ : ∃ d', d = d' + 1 := ⟨d - 1, by omega⟩
      simp only [erC, exec]⟩
  | .exit i, R, K, r, C, n, h, e, t, s, hk, he, hM, hN, ho => ⟨.exit i, e, h, n, C, t, s, hk, he, hM, hN, Nat.le_refl _, .refl _ _ _, 1, fun d hd => by
      obtain ⟨d, rfl⟩ : ∃ d', d = d' + 1 := ⟨d - 1, by omega⟩
      simp only [erC, exec]⟩
  | .ret, R, K, r, C, n, h, e, t, s, hk, he, hM, hN, ho => ⟨.ret, e, h, n, C, t, s, hk, he, hM, hN, Nat.le_refl _, .refl _ _ _, 1, fun d hd => by
      obtain ⟨d, rfl⟩ : ∃ d', d = d' + 1 := ⟨d - 1, by omega⟩
      simp only [erC, exec]⟩
  | .reg ops, R, K, r, C, n, h, e, t, s, hk, he, hM, hN, ho => by
    obtain ⟨e', h', n', C', t', s', fs, q1, q2, q3, q4, q5, q6, q7⟩ := opsK_sim hO ops [] C n h e t s _ r hk he hM hN ho
    obtain ⟨D, hD⟩ := q2.run
    refine ⟨.normal, e', h', n', C', t', s', q1, q3, q4, q5, q6, q7, D + 1, fun d hd => ?_⟩
    obtain ⟨d, rfl⟩ : ∃ d', d = d' + 1 := ⟨d - 1, by omega⟩
    simp only [erC, exec, hD d (by omega), Option.map_some]
  | .regD ops before, R, K, r, C, n, h, e, t, s, hk, he, hM, hN, ho => by
    simp only [okP, Bool.and_eq_true] at ho
    obtain ⟨e', h', n', C', t', s', fs, q1, q2, q3, q4, q5, q6, q7⟩ := opsK_sim hO ops [] C n h e t s _ r hk he hM hN ho.1
    obtain ⟨D, hD⟩ := q2.draw ho.2
    refine ⟨.normal, e', h', n', C', t', s', q1, q3, q4, q5, q6, q7, D + 1, fun d hd => ?_⟩
    obtain ⟨d, rfl⟩ : ∃ d', d = d' + 1 := ⟨d - 1, by omega⟩
    obtain ⟨gs, g1, g2⟩ := hD d (by omega)
    simp only [erC, exec, g1, g2, if_true]
  | .seq a b, R, K, r, C, n, h, e, t, s, hk, he, hM, hN, ho => by
    simp only [okP, Bool.and_eq_true] at ho
    have ha := execK_sim hO a _ r C n h e t s hk he hM hN ho.1
    have hb := fun C n h e t s hk he hM hN => execK_sim hO b K r C n h e t s hk he hM hN ho.2
    have hseq := res_seq ha hb
    unfold erC
    split
    · rename_i ops
      split
      · rename_i hann
        simp only [Bool.and_eq_true] at hann
        obtain ⟨e', h', n', C', t', s', fs, q1, q2, q3, q4, q5, q6, q7⟩ := opsK_sim hO ops [] C n h e t s _ r hk he hM hN ho.1
        rw [ann_er hann.1] at q2
        have := q2.nil_inv
        cases this
        obtain ⟨x2, e2, h2, n2, C2, t2, s2, w1, w2, w3, w4, w5, w6, D2, w7⟩ := hb C' n' h' e' t s q1 q3 q4 hN
        exact ⟨x2, e2, h2, n2, C2, t2, s2, w1, w2, w3, w4, by omega, q7.trans w6, D2, w7⟩
      · exact hseq
    · exact hseq
  | .cond c a b, R, K, r, C, n, h, e, t, s, hk, he, hM, hN, ho => by
    simp only [okP, Bool.and_eq_true] at ho
    unfold execK at hk
    rw [evsK_eq, Option.bind_eq_some_iff] at hk
    obtain ⟨vs, hvs, hk⟩ := hk
    split at hk
    · rename_i v
      rw [ifK_eq] at hk
      refine res_cond (cond_ev he ho.1.1 hvs rfl) ?_
      cases v with
      | true => exact execK_sim hO a K r C n h e t s hk he hM hN ho.1.2
      | false => exact execK_sim hO b K r C n h e t s hk he hM hN ho.2
    · exact none_some hk
  | .condJ keep c a b, R, K, r, C, n, h, e, t, s, hk, he, hM, hN, ho => by
    simp only [okP, Bool.and_eq_true] at ho
    unfold execK at hk
    rw [evsK_eq, Option.bind_eq_some_iff] at hk
    obtain ⟨vs, hvs, hk⟩ := hk
    split at hk
    · rename_i v
      rw [bindK_eq, Option.bind_eq_some_iff] at hk
      obtain ⟨q, hq, hk⟩ := hk
      rw [ifK_eq] at hq
      refine res_cond (cond_ev he ho.1.1 hvs rfl) ?_
      have fin : ∀ {c : IC}, Res T N lim rd c C n h t s (fun x e' h' _ => canonK keep h n e' h' fun s => some (x, s)) q → Res T N lim rd c C n h t s K r := by
        intro c hres
        obtain ⟨x1, e1, h1, n1, C1, t1, s1, k1, k2, k3, k4, k5, k6, D, k7⟩ := hres
        obtain ⟨st1, w1, w2, w3, w4, w5⟩ := canon_sim (fun k hk => by
          cases hz : hget h k with
          | none => exact absurd hz hk
          | some o => obtain ⟨pl, p1, _⟩ := hM.hr.ob k o hz; exact hM.dom k pl p1) k3 k2 k1
        cases w1
        exact ⟨x1, st1.e, st1.h, n, _, t1, s1, hk, w2, w3, k4, Nat.le_refl _, Fr.canon hM k6 w4 w5, D, k7⟩
      cases v with
      | true => exact fin (execK_sim hO a _ q C n h e t s hq he hM hN ho.1.2)
      | false => exact fin (execK_sim hO b _ q C n h e t s hq he hM hN ho.2)
    · exact none_some hk
  | .block id c, R, K, r, C, n, h, e, t, s, hk, he, hM, hN, ho => by
    unfold execK at hk
    obtain ⟨x1, e1, h1, n1, C1, t1, s1, k1, k2, k3, k4, k5, k6, D, k7⟩ := execK_sim hO c _ r C n h e t s hk he hM hN ho
    have go : ∀ (x : Ex), (∀ d, D ≤ d → (match exec T d lim rd (erC c) { t := t, s := s } with | some (.exit i, σ) => if i = id then some (.normal, σ) else some (.exit i, σ) | r => r) = some (x, { t := t1, s := s1 })) → K x e1 h1 n1 = some r → Res T N lim rd (erC (.block id c)) C n h t s K r := by
      intro x hx hK
      refine ⟨x, e1, h1, n1, C1, t1, s1, hK, k2, k3, k4, k5, k6, D + 1, fun d hd => ?_⟩
      obtain ⟨d, rfl⟩ : ∃ d', d = d' + 1 := ⟨d - 1, by omega⟩
      rw [erC, exec]
      exact hx d (by omega)
    cases x1 with
    | normal => exact go .normal (fun d hd => by rw [k7 d hd]) k1
    | ret => exact go .ret (fun d hd => by rw [k7 d hd]) k1
    | exit i =>
      simp only [beq_iff] at k1
      by_cases e1 : i = id
      · subst e1
        simp only [decide_true, cond_true] at k1
        exact go .normal (fun d hd => by rw [k7 d hd]; simp) k1
      · simp only [decide_eq_false e1, cond_false] at k1
        exact go (.exit i) (fun d hd => by rw [k7 d hd]; simp [e1]) k1
  | .loop keep c, R, K, r, C, n, h, e, t, s, hk, he, hM, hN, ho => by
    unfold execK at hk
    have hd : ∀ k, hget h k ≠ none → k < n := fun k hk => by
      cases hz : hget h k with
      | none => exact absurd hz hk
      | some o => obtain ⟨pl, p1, _⟩ := hM.hr.ob k o hz; exact hM.dom k pl p1
    obtain ⟨st1, w1, w2, w3, w4, w5⟩ := canon_sim hd hM he hk
    rw [bindK_eq, Option.bind_eq_some_iff] at w1
    obtain ⟨⟨x, st'⟩, hq, hK⟩ := w1
    obtain ⟨C', t', s', p1, p2, p3, p4, D, p5⟩ := loop_sim (T := T) (rd := rd) (N := N) (lim := lim) hd (fun K' r' C n h e t s hk he hM hN => execK_sim hO c K' r' C n h e t s hk he hM hN ho) B64 st1 _ t s x st' hq w2 w3 hN w5
    exact ⟨x, st'.e, st'.h, n, C', t', s', hK, p1, p2, p3, Nat.le_refl _, (Fr.canon hM (.refl _ _ _) w4 w5).trans p4, D, p5⟩
end
end Go.P
set_option linter.unusedVariables false
set_option linter.unusedSimpArgs false
namespace Go.P
open Go.Sim (AV AO Hp Ent upd St IC IX Ex OpK CK Wf Out doOp Tab exec Foot wanted put popMark mapO fzI fzM fzC fz1 fz)
open Go.Sim (RV IFn)
structure PFn where
  ntmps : Nat
  res : List Sim.RV
  code : PC
  deriving Inhabited
noncomputable section
variable {R : Type}
def fEnum : List PV → Nat → (Env → Option R) → Option R
  | [], _, K => K []
  | x :: xs, i, K => fV x fun x => fEnum xs (i + 1) fun e => K ((i, x) :: e)
def resK (e : Env) (h : Heap) (n : Nat) : List Sim.RV → (List PV → Option R) → Option R
  | [], K => K []
  | .tmp i :: rs, K => getK e i fun v => resK e h n rs fun vs => K (v :: vs)
  | .cellS i :: rs, K => getK e i fun p => stepK .loadS [p] h n fun v _ _ => resK e h n rs fun vs => K (v :: vs)
  | .cellA i m :: rs, K => getK e i fun p => stepK (.loadA m) [p] h n fun v _ _ => resK e h n rs fun vs => K (v :: vs)
def rzIK (h : Heap) : Nat → PV → (PV → Option R) → Option R
  | 0, _, _ => none
  | d + 1, x, K => match x with
    | .own k => hK h k fun ob => match ob with
      | .lst _ e _ rows => K (.is e rows)
      | _ => none
    | .ref k o => hK h k fun ob => match ob with
      | .box cs => dropK o cs fun cs => mapK (rzIK h d) cs fun cs => K (.ip cs)
      | _ => none
    | .v x => K (.v x)
    | .is e rows => K (.is e rows)
    | .ip cs => K (.ip cs)
    | _ => none
def rzCK (h : Heap) (x : PV) (K : PV → Option R) : Option R := match x with
  | .fn f [] [] => K (.fn f [] [])
  | x => rzIK h 4 x K
def rzCs (h : Heap) : List PV → (List PV → Option R) → Option R
  | [], K => K []
  | x :: xs, K => rzCK h x fun x => rzCs h xs fun xs => K (x :: xs)
def rz1K (h : Heap) (x : PV) (K : PV → Option R) : Option R := match x with
  | .agg cs => rzCs h cs fun cs => K (.agg cs)
  | x => rzCK h x K
def rz1s (h : Heap) : List PV → (List PV → Option R) → Option R
  | [], K => K []
  | x :: xs, K => rz1K h x fun x => rz1s h xs fun xs => K (x :: xs)
def rzK (h : Heap) (x : PV) (K : PV → Option R) : Option R := match x with
  | .tup vs => rz1s h vs fun vs => K (.tup vs)
  | .map k => hK h k fun ob => match ob with
    | .mp es => K (.im es)
    | _ => none
  | x => rz1K h x K
def bodyK (C : Orc) (fn : PFn) (xs : List PV) (K : PV → Option R) : Option R :=
  bif Nat.ble xs.length fn.ntmps then fEnum xs 0 fun e => execK C fn.code e [] 0 fun x e h n => match x with
    | .exit _ => none
    | _ => resK e h n fn.res fun vs => match vs with
      | [v] => rzK h v K
      | vs => rzK h (.tup vs) K
  else none
abbrev PTab := Nat → Option PFn
def Od (B : Orc) (P : PTab) : Nat → Orc
  | 0, f, xs => B f xs
  | d + 1, f, xs => match P f with
    | some fn => bodyK (Od B P d) fn xs some
    | none => B f xs
end
def toI (fn : PFn) : IFn := { ntmps := fn.ntmps, res := fn.res, body := erC fn.code, pure := true, frz := true }
section
variable {R : Type}
def enumE : List PV → Nat → Env
  | [], _ => []
  | x :: xs, i => (i, x) :: enumE xs (i + 1)
theorem fEnum_eq : ∀ (xs : List PV) (i : Nat) (K : Env → Option R), fEnum xs i K = K (enumE xs i)
  | [], i, K => rfl
  | x :: xs, i, K => by simp [fEnum, fV_eq, enumE, fEnum_eq xs]
theorem eget_enum : ∀ (xs : List PV) (i j : Nat) (v : PV), eget (enumE xs i) j = some v → i ≤ j ∧ xs[j - i]? = some v
  | [], i, j, v, h => by simp [enumE, eget] at h
  | x :: xs, i, j, v, h => by
    simp only [enumE, eget] at h
    split at h
    · rename_i e; subst e; cases h; simp
    · obtain ⟨h1, h2⟩ := eget_enum xs (i + 1) j v h
      refine ⟨by omega, ?_⟩
      rw [show j - i = (j - (i + 1)) + 1 by omega]
      simpa using h2
variable {C : Cx} {n : Nat} {h : Heap} {lim : Nat} {s : Hp} {e : Env} {t : List AV}
theorem load_sim {k : OpK} {y : AV} {K : PV → Heap → Nat → Option R} {r : R} (hs : LoadR C n h s k [y] K r) :
    ∃ w z, K w h n = some r ∧ (doOp (Sim.look s.h) 0 0 k [y]).map (·.v) = some z ∧ RV C w z := by
  obtain ⟨w, z, h1, h2, h3⟩ := hs
  exact ⟨w, z, h3, by rw [h1 0 0]; rfl, h2⟩
theorem res_sim (hM : Mem C n h lim s) (he : EnvR C e t) : ∀ {rs : List Sim.RV} {K : List PV → Option R} {r : R}, resK e h n rs K = some r →
    ∃ vs ws, K vs = some r ∧ mapO (Sim.readRes (Sim.look s.h) t) rs = some ws ∧ LR (RV C) vs ws
  | [], K, r, hk => ⟨[], [], hk, rfl, .nil⟩
  | .tmp i :: rs, K, r, hk => by
    unfold resK at hk
    rw [getK_eq, Option.bind_eq_some_iff] at hk
    obtain ⟨v, hv, hk⟩ := hk
    obtain ⟨y, h1, h2⟩ := he i v hv
    obtain ⟨vs, ws, k1, k2, k3⟩ := res_sim hM he hk
    exact ⟨_, y :: ws, k1, by simp [mapO, Sim.readRes, h1, k2], .cons h2 k3⟩
  | .cellS i :: rs, K, r, hk => by
    unfold resK at hk
    rw [getK_eq, Option.bind_eq_some_iff] at hk
    obtain ⟨v, hv, hk⟩ := hk
    obtain ⟨y, h1, h2⟩ := he i v hv
    obtain ⟨w, z, q1, q2, q3⟩ := load_sim (st_loadS_p hM (.cons h2 .nil) hk)
    obtain ⟨vs, ws, k1, k2, k3⟩ := res_sim hM he q1
    exact ⟨_, z :: ws, k1, by simp only [mapO, Sim.readRes, h1, q2, k2], .cons q3 k3⟩
  | .cellA i m :: rs, K, r, hk => by
    unfold resK at hk
    rw [getK_eq, Option.bind_eq_some_iff] at hk
    obtain ⟨v, hv, hk⟩ := hk
    obtain ⟨y, h1, h2⟩ := he i v hv
    obtain ⟨w, z, q1, q2, q3⟩ := load_sim (st_loadA_p hM (.cons h2 .nil) hk)
    obtain ⟨vs, ws, k1, k2, k3⟩ := res_sim hM he q1
    exact ⟨_, z :: ws, k1, by simp only [mapO, Sim.readRes, h1, q2, k2], .cons q3 k3⟩
theorem fzI_ptr {L : Nat → Option AO} {d id ver e o : Nat} {bx : Bool} {ty : TypeId} {esz : Nat} {els : List (List AV)} {row cs : List AV} (hL : L id = some (.arr bx ty esz ver els)) (hr : els[e]? = some row) (hc : mapO (fzI L 0 d) (row.drop o) = some cs) : fzI L 0 (d + 1) (.ptr id ver e o) = some (.ip cs) := by
  simp [fzI, hL, hr, hc]
theorem rzI_sim (hM : Mem C n h lim s) : ∀ (d : Nat) (x : PV) (y : AV) (K : PV → Option R) (r : R), rzIK h d x K = some r → RV C x y → ∃ x' y', K x' = some r ∧ fzI (Sim.look s.h) 0 (d + 2) y = some y' ∧ RC false x' y'
  | 0, x, y, K, r, hk, _ => by unfold rzIK at hk; exact none_some hk
  | d + 1, x, y, K, r, hk, hv => by
    unfold rzIK at hk
    cases x with
    | own k =>
      simp only [hK_eq, Option.bind_eq_some_iff] at hk
      obtain ⟨ob, hg, hk⟩ := hk
      cases ob with
      | lst ty e g rows =>
        rcases rv_own hv with ⟨id, ver, e3, len, hC, rfl⟩ | ⟨hC, hy⟩
        · obtain ⟨_, rfl, hlen, els, hL, hr, hle, _⟩ := lst_of hM hg hC
          subst hlen
          exact ⟨_, _, hk, sl_fz (d := d + 1) (Nat.zero_le _) hL hr hle, hr.is⟩
        · have := lst_nil hM hg hC
          subst this
          rcases hy with rfl | rfl
          · exact ⟨_, _, hk, rfl, .isn⟩
          · exact ⟨_, _, hk, rfl, .ise⟩
      | _ => exact none_some hk
    | ref k o =>
      simp only [hK_eq, Option.bind_eq_some_iff] at hk
      obtain ⟨ob, hg, hk⟩ := hk
      cases ob with
      | box cs =>
        obtain ⟨k1, k2⟩ := dropK_some _ _ _ _ hk
        obtain ⟨id, ver, e, len, hC, rfl⟩ := rv_ref hv
        obtain ⟨_, ty, esz, row, hL, hl⟩ := box_of hM hg hC
        have lists : ∀ (xs : List PV) (ys : List AV) (K : List PV → Option R) (r : R), mapK (rzIK h d) xs K = some r → LR (RV C) xs ys →
            ∃ xs' ys', K xs' = some r ∧ mapO (fzI (Sim.look s.h) 0 (d + 2)) ys = some ys' ∧ LR (RC false) xs' ys' := by
          intro xs
          induction xs with
          | nil =>
            intro ys K r hk hl
            rw [hl.inv_nil]
            unfold mapK at hk
            exact ⟨[], [], hk, rfl, .nil⟩
          | cons a as ih =>
            intro ys K r hk hl
            obtain ⟨y, ys', rfl, h1, h2⟩ := hl.inv_cons
            unfold mapK at hk
            obtain ⟨a', b', k1, k2, k3⟩ := rzI_sim hM d a y _ r hk h1
            obtain ⟨as', bs', q1, q2, q3⟩ := ih ys' _ r k1 h2
            exact ⟨a' :: as', b' :: bs', q1, by simp only [mapO, k2, q2], .cons k3 q3⟩
        obtain ⟨xs', ys', q1, q2, q3⟩ := lists _ _ _ r k2 (hl.drop o)
        refine ⟨_, .ip ys', q1, ?_, .ip q3.1 q3.2⟩
        exact fzI_ptr hL rfl q2
      | _ => exact none_some hk
    | v x =>
      rw [rv_v hv]
      exact ⟨_, _, hk, rfl, .v x⟩
    | is e rows =>
      rcases rv_is hv with ⟨rows', rfl, hr⟩ | ⟨rfl, rfl | rfl⟩
      · exact ⟨_, _, hk, rfl, hr.is⟩
      · exact ⟨_, _, hk, rfl, .isn⟩
      · exact ⟨_, _, hk, rfl, .ise⟩
    | ip cs =>
      obtain ⟨cs', rfl, hl⟩ := rv_ip hv
      exact ⟨_, _, hk, rfl, .ip hl.1 hl.2⟩
    | _ => exact none_some hk
theorem rv_gen {x : PV} {y : AV} (hv : RV C x y) {f : FuncId} {a b : List PV} (hx : x = .fn f a b) : ∃ a' b', y = .fn (.func f) a' b' ∧ a'.length = a.length ∧ b'.length = b.length := by
  subst hx
  obtain ⟨a', b', rfl, h1, h2⟩ := rv_fn hv
  exact ⟨a', b', rfl, h1.1.symm, h2.1.symm⟩
theorem rzC_other {L : Nat → Option AO} {y y' : AV} (h : fzI L 0 6 y = some y') : fzC L 0 y = some y' := by
  cases y with
  | sl => simp only [fzC, Nat.not_lt_zero, if_false]; exact h
  | ptr => simp only [fzC, Nat.not_lt_zero, if_false]; exact h
  | map => simp [fzI] at h
  | fn v a b => simp [fzI] at h
  | _ => exact h
theorem rz1_other {L : Nat → Option AO} {y y' : AV} (h : fzC L 0 y = some y') (hy : ∀ cs, y ≠ .agg cs) : fz1 L 0 y = some y' := by
  cases y with
  | agg cs => exact absurd rfl (hy cs)
  | _ => exact h
theorem rz_other {L : Nat → Option AO} {y y' : AV} (h : fz1 L 0 y = some y') (hy : ∀ cs, y ≠ .tup cs) (hm : ∀ id, y ≠ .map id) : fz L 0 y = some y' := by
  cases y with
  | tup cs => exact absurd rfl (hy cs)
  | map id => exact absurd rfl (hm id)
  | _ => exact h
theorem rzC_sim (hM : Mem C n h lim s) {x : PV} {y : AV} {K : PV → Option R} {r : R} (hk : rzCK h x K = some r) (hv : RV C x y) : ∃ x' y', K x' = some r ∧ fzC (Sim.look s.h) 0 y = some y' ∧ RC false x' y' := by
  unfold rzCK at hk
  split at hk
  · rename_i f
    obtain ⟨a', b', rfl, h1, h2⟩ := rv_fn hv
    rw [h1.inv_nil, h2.inv_nil]
    exact ⟨_, _, hk, rfl, .fn rfl rfl (fun j x y h => by simp at h) (fun j x y h => by simp at h)⟩
  · obtain ⟨x', y', h1, h2, h3⟩ := rzI_sim hM 4 x y K r hk hv
    exact ⟨x', y', h1, rzC_other h2, h3⟩
theorem rzCs_sim (hM : Mem C n h lim s) : ∀ {xs : List PV} {ys : List AV} {K : List PV → Option R} {r : R}, rzCs h xs K = some r → LR (RV C) xs ys → ∃ xs' ys', K xs' = some r ∧ mapO (fzC (Sim.look s.h) 0) ys = some ys' ∧ LR (RC false) xs' ys'
  | [], ys, K, r, hk, hl => by rw [hl.inv_nil]; exact ⟨[], [], hk, rfl, .nil⟩
  | x :: xs, ys, K, r, hk, hl => by
    obtain ⟨y, ys', rfl, h1, h2⟩ := hl.inv_cons
    unfold rzCs at hk
    obtain ⟨a', b', k1, k2, k3⟩ := rzC_sim hM hk h1
    obtain ⟨as', bs', q1, q2, q3⟩ := rzCs_sim hM k1 h2
    exact ⟨a' :: as', b' :: bs', q1, by simp only [mapO, k2, q2], .cons k3 q3⟩
theorem rv_notagg {x : PV} {y : AV} (hv : RV C x y) (hx : ∀ cs, x ≠ .agg cs) (hu : x ≠ .undef) : ∀ cs, y ≠ .agg cs := by
  intro cs hy
  subst hy
  cases hv with
  | cl h => cases h; exact hx _ rfl
  | undef => exact hu rfl
  | ownn _ hy => rcases hy with hy | hy <;> cases hy
  | agg => exact hx _ rfl
theorem rv_nottup {x : PV} {y : AV} (hv : RV C x y) (hx : ∀ cs, x ≠ .tup cs) (hu : x ≠ .undef) : ∀ cs, y ≠ .tup cs := by
  intro cs hy
  subst hy
  cases hv with
  | cl h => cases h; exact hx _ rfl
  | undef => exact hu rfl
  | ownn _ hy => rcases hy with hy | hy <;> cases hy
  | tup => exact hx _ rfl
theorem rv_notmap {x : PV} {y : AV} (hv : RV C x y) (hx : ∀ k, x ≠ .map k) (hu : x ≠ .undef) : ∀ id, y ≠ .map id := by
  intro id hy
  subst hy
  cases hv with
  | cl h => cases h
  | undef => exact hu rfl
  | ownn _ hy => rcases hy with hy | hy <;> cases hy
  | map => exact hx _ rfl
theorem rz1_sim (hM : Mem C n h lim s) {x : PV} {y : AV} {K : PV → Option R} {r : R} (hk : rz1K h x K = some r) (hv : RV C x y) : ∃ x' y', K x' = some r ∧ fz1 (Sim.look s.h) 0 y = some y' ∧ RC false x' y' := by
  unfold rz1K at hk
  split at hk
  · rename_i cs
    obtain ⟨cs', rfl, hl⟩ := rv_agg hv
    obtain ⟨xs', ys', k1, k2, k3⟩ := rzCs_sim hM hk hl
    exact ⟨_, .agg ys', k1, by simp only [fz1, k2, Option.map_some], .agg k3.1 k3.2⟩
  · rename_i hx
    obtain ⟨x', y', h1, h2, h3⟩ := rzC_sim hM hk hv
    by_cases hu : x = .undef
    · subst hu; exact none_some hk
    · exact ⟨x', y', h1, rz1_other h2 (rv_notagg hv hx hu), h3⟩
theorem rz1s_sim (hM : Mem C n h lim s) : ∀ {xs : List PV} {ys : List AV} {K : List PV → Option R} {r : R}, rz1s h xs K = some r → LR (RV C) xs ys → ∃ xs' ys', K xs' = some r ∧ mapO (fz1 (Sim.look s.h) 0) ys = some ys' ∧ LR (RC false) xs' ys'
  | [], ys, K, r, hk, hl => by rw [hl.inv_nil]; exact ⟨[], [], hk, rfl, .nil⟩
  | x :: xs, ys, K, r, hk, hl => by
    obtain ⟨y, ys', rfl, h1, h2⟩ := hl.inv_cons
    unfold rz1s at hk
    obtain ⟨a', b', k1, k2, k3⟩ := rz1_sim hM hk h1
    obtain ⟨as', bs', q1, q2, q3⟩ := rz1s_sim hM k1 h2
    exact ⟨a' :: as', b' :: bs', q1, by simp only [mapO, k2, q2], .cons k3 q3⟩
theorem rz_sim (hM : Mem C n h lim s) {x : PV} {y : AV} {K : PV → Option R} {r : R} (hk : rzK h x K = some r) (hv : RV C x y) : ∃ x' y', K x' = some r ∧ fz (Sim.look s.h) 0 y = some y' ∧ RC false x' y' := by
  unfold rzK at hk
  split at hk
  · rename_i vs
    obtain ⟨cs', rfl, hl⟩ := rv_tup hv
    obtain ⟨xs', ys', k1, k2, k3⟩ := rz1s_sim hM hk hl
    exact ⟨_, .tup ys', k1, by simp only [fz, k2, Option.map_some], .tup k3.1 k3.2⟩
  · rename_i k
    rw [hK_eq, Option.bind_eq_some_iff] at hk
    obtain ⟨ob, hg, hk⟩ := hk
    cases ob with
    | mp es =>
      obtain ⟨id, ver, e, len, hC, rfl⟩ := rv_map hv
      obtain ⟨_, es', hL, he⟩ := mp_of hM hg hC
      refine ⟨_, .im es', hk, ?_, he.er.im⟩
      simp only [fz, Nat.not_lt_zero, if_false, hL]
      exact congrArg (Option.map AV.im) (map_fz he)
    | _ => exact none_some hk
  · rename_i hx hm
    obtain ⟨x', y', h1, h2, h3⟩ := rz1_sim hM hk hv
    by_cases hu : x = .undef
    · subst hu; exact none_some hk
    · exact ⟨x', y', h1, rz_other h2 (rv_nottup hv hx hu) (rv_notmap hv hm hu), h3⟩
variable {T : Tab} {O : Orc}
theorem body_sim (hO : ∀ f xs v, O f xs = some v → FnOK T f xs v) {fn : PFn} (hok : okP fn.ntmps fn.code = true) {xs : List PV} {ys : List AV} {v : PV} (hl : LR (RC false) xs ys) (hk : bodyK O fn xs some = some v) :
    ∃ D, ∀ d, D ≤ d → ∃ w s' y, Sim.body (exec T d) 0 (toI fn) ys { h := [], n := 0 } = some (w, s') ∧ Sim.fz (Sim.look s'.h) 0 w = some y ∧ RC false v y := by
  unfold bodyK at hk
  cases hle : Nat.ble xs.length fn.ntmps with
  | false => rw [hle] at hk; exact none_some hk
  | true =>
    rw [hle, cond_true, fEnum_eq] at hk
    have hle : xs.length ≤ fn.ntmps := by simpa [Nat.ble_eq] using hle
    have hlen := hl.1
    have hM : Mem (fun _ => none) 0 [] 0 ({ h := [], n := 0 } : Hp) := ⟨⟨fun k po h => by simp [hget] at h, fun k k' id v e l v' e' l' a => absurd rfl a⟩, fun k pl h => (by cases h), trivial, Nat.le_refl _⟩
    have he : EnvR (fun _ => none) (enumE xs 0) (ys ++ List.replicate (fn.ntmps - ys.length) .undef) := fun i v hv => by
      obtain ⟨_, h2⟩ := eget_enum xs 0 i v hv
      obtain ⟨y, h3, h4⟩ := hl.get (by simpa using h2)
      exact ⟨y, by rw [List.getElem?_append_left (List.getElem?_eq_some_iff.1 h3).1]; exact h3, .cl h4⟩
    obtain ⟨x, e', h', n', C', t', s', q1, q2, q3, q4, q5, q6, D, q7⟩ := execK_sim (T := T) (rd := false) (lim := 0) (N := fn.ntmps) hO fn.code _ v _ 0 [] _ (ys ++ List.replicate (fn.ntmps - ys.length) .undef) _ hk he hM (by simp; omega) hok
    have fin : (∀ i, x ≠ .exit i) → (resK e' h' n' fn.res fun vs => match vs with | [v] => rzK h' v some | vs => rzK h' (.tup vs) some) = some v →
        ∃ D, ∀ d, D ≤ d → ∃ w s' y, Sim.body (exec T d) 0 (toI fn) ys { h := [], n := 0 } = some (w, s') ∧ Sim.fz (Sim.look s'.h) 0 w = some y ∧ RC false v y := by
      intro hx hr
      obtain ⟨vs, ws, r1, r2, r3⟩ := res_sim q3 q2 hr
      obtain ⟨w, y, p1, p2, p3⟩ : ∃ w y, Sim.results (Sim.look s'.h) t' fn.res = some w ∧ Sim.fz (Sim.look s'.h) 0 w = some y ∧ RC false v y := by
        split at r1
        · rename_i v1
          obtain ⟨w, ws', rfl, k1, k2⟩ := r3.inv_cons
          have := k2.inv_nil
          subst this
          obtain ⟨x', y', z1, z2, z3⟩ := rz_sim q3 r1 k1
          cases z1
          exact ⟨w, y', by simp only [Sim.results, r2], z2, z3⟩
        · rename_i hne
          obtain ⟨x', y', z1, z2, z3⟩ := rz_sim q3 r1 (y := .tup ws) (.tup r3.1 r3.2)
          cases z1
          refine ⟨.tup ws, y', ?_, z2, z3⟩
          simp only [Sim.results, r2]
          split
          · rename_i w hw
            cases hw
            have := r3.1
            rcases vs with _ | ⟨a, _ | ⟨b, t⟩⟩ <;> simp at this
            exact absurd rfl (hne a)
          · rename_i h1 h2; cases h2; rfl
          · rename_i h1; cases h1
      refine ⟨D, fun d hd => ⟨w, s', y, ?_, p2, p3⟩⟩
      simp only [Sim.body, toI, q7 d hd]
      cases x with
      | exit i => exact absurd rfl (hx i)
      | normal => simp only [p1, Option.map_some]
      | ret => simp only [p1, Option.map_some]
    cases x with
    | exit i => exact none_some q1
    | normal => exact fin (fun i h => by cases h) q1
    | ret => exact fin (fun i h => by cases h) q1
theorem Od_ok {B : Orc} {P : PTab} (hB : ∀ f xs v, B f xs = some v → FnOK T f xs v) (hT : ∀ f fn, P f = some fn → T f = some (toI fn) ∧ okP fn.ntmps fn.code = true) : ∀ d f xs v, Od B P d f xs = some v → FnOK T f xs v
  | 0, f, xs, v, h => by unfold Od at h; exact hB f xs v h
  | d + 1, f, xs, v, h => by
    unfold Od at h
    split at h
    · rename_i fn hfn
      obtain ⟨h1, h2⟩ := hT f fn hfn
      exact ⟨toI fn, h1, rfl, rfl, fun ys hl => body_sim (Od_ok hB hT d) h2 hl h⟩
    · exact hB f xs v h
theorem Od_eq {B : Orc} {P : PTab} {f : FuncId} {fn : PFn} (h : P f = some fn) (d : Nat) (xs : List PV) : Od B P (d + 1) f xs = bodyK (Od B P d) fn xs some := by
  rw [Od, h]
theorem Od_base {B : Orc} {P : PTab} {f : FuncId} (h : P f = none) (d : Nat) (xs : List PV) : Od B P d f xs = B f xs := by
  cases d with
  | zero => rw [Od]
  | succ d => rw [Od, h]
end
end Go.P
set_option linter.unusedVariables false
namespace Go.P
open Go.Sim (Ex OpK CK)
theorem bind_ok {α β γ δ : Type} {X : Option γ} {Y : Option α} {e : α → γ} {K : γ → Option δ} {F : α → Option β} {enc : β → δ} (h : X = Y.map e) (hk : ∀ y, K (e y) = (F y).map enc) : bindK X K = (Y.bind F).map enc := by
  rw [bindK_eq]; subst h; cases Y <;> simp [hk]
theorem if_ok {β γ : Type} {b : Bool} {X Y : Option γ} {FX FY : Option β} {enc : β → γ} (hx : X = FX.map enc) (hy : Y = FY.map enc) : ifK b X Y = (if b then FX else FY).map enc := by
  rw [ifK_eq]; subst hx hy; cases b <;> rfl
theorem leaf {β γ : Type} {x : γ} {y : β} {enc : β → γ} (h : x = enc y) : some x = (some y).map enc := by subst h; rfl
theorem guard_ok {b : Bool} {X : Option Bool} {x : Bool} (h : X = some x) : ifK b X (some false) = (some (b && x)).map id := by
  rw [ifK_eq, h]; cases b <;> rfl
theorem guard_or {b : Bool} {X : Option Bool} {x : Bool} (h : X = some x) : ifK b (some true) X = (some (b || x)).map id := by
  rw [ifK_eq, h]; cases b <;> rfl
theorem loop_ok {S E S' E' : Type} {enc : S → S'} {encE : E → E'} {B : S' → Option (S' ⊕ E')} {F : S → Option (S ⊕ E)} (h : ∀ s, B (enc s) = (F s).map (Sum.map enc encE)) : ∀ (n : Nat) (s : S), loopN B n (enc s) = (loopN F n s).map encE
  | 0, s => rfl
  | n + 1, s => by
    simp only [loopN, h]
    cases F s with
    | none => rfl
    | some r =>
      cases r with
      | inl s' => exact loop_ok h n s'
      | inr e => rfl
def lget {A : Type} (l : List A) (i : Int) : Option A := if 0 ≤ i then l[i.toNat]? else none
theorem rowGet_map {A : Type} (f : A → List PV) (l : List A) (i : Int) : rowGet (l.map f) i = (lget l i).map f := by
  unfold rowGet lget
  split <;> simp
def i64 (n : Int) : PV := .v (.int .i64 n)
def bv (b : Bool) : PV := .v (.bool b)
end Go.P
