import Derived.Test.YtflklffaiianhaaGreatLaB
/- A text of the proof of MultirestFinds. -/
set_option linter.unusedVariables false
set_option linter.unusedSimpArgs false
namespace Go.Sim
open Go.RowKit Go.ChangeShapes Go.WideShapes Go.ChangeAt
section
variable {H : Type} {enc : TypeId × Value → H} {P : Program} {W W' : World}
theorem form_of_ok {D : Nat} {t : TypeId} {base : Nat} {V : Value} (hp : plainTy P D t = true) (hok : Value.okWide P W .any base t V) : ((∃ cs, V = .agg cs) ↔ isAggB P t = true) ∧ ∀ cs, V ≠ .tuple cs := by
  cases D with
  | zero => simp [plainTy] at hp
  | succ D =>
  unfold plainTy at hp
  unfold Value.okWide at hok
  unfold isAggB
  split at hp
  · rename_i hu
    rw [hu] at hok ⊢
    simp only [Cell.okWide, hu] at hok
    cases V <;> simp_all [Cell.ok]
  · rename_i hu
    rw [hu] at hok ⊢
    simp only [Cell.okWide, hu] at hok
    cases V <;> simp_all [Cell.ok]
  · rename_i hu
    rw [hu] at hok ⊢
    simp only [Cell.okWide, hu] at hok
    cases V <;> simp_all [Cell.ok]
  · rename_i hu
    rw [hu] at hok ⊢
    simp only [Cell.okWide, hu] at hok
    cases V <;> simp_all [Cell.ok]
  · rename_i hu
    rw [hu] at hok ⊢
    obtain ⟨cs, rfl, _⟩ := hok
    exact ⟨⟨fun _ => rfl, fun _ => ⟨cs, rfl⟩⟩, fun cs h => by cases h⟩
  · rename_i hu
    rw [hu] at hok ⊢
    obtain ⟨cs, rfl, _⟩ := hok
    exact ⟨⟨fun _ => rfl, fun _ => ⟨cs, rfl⟩⟩, fun cs h => by cases h⟩
  · cases hp
def ArgsR (P : Program) (W : World) (D : Nat) : List TypeId → List AV → List Value → Prop
  | [], [], [] => True
  | t :: ts, x :: xs, V :: Vs => ArgR P W D t x V ∧ ArgsR P W D ts xs Vs
  | _, _, _ => False
theorem args_ok {D base : Nat} : ∀ {ts : List TypeId} {vs : List Value} {ds : List (DataW H)} {ps : List MemPlace}, (ts.all fun t => plainTy P D t) = true →
    (∀ (j : Nat) t v, ts[j]? = some t → vs[j]? = some v → Value.okWide P W .any base t v) →
    DataW.TrodAll enc P W 0 (fun _ => true) true ts vs ds ps → ∃ xs, ArgsR P W D ts xs vs
  | [], vs, ds, ps, _, _, h => by
    match vs, ds, h with
    | [], [], h => exact ⟨[], trivial⟩
  | t :: ts, vs, ds, ps, hp, hok, h => by
    match vs, ds, h with
    | v :: vs, d :: ds, h =>
      obtain ⟨p, q, ⟨fuel, h1⟩, h2, rfl⟩ := h
      simp only [List.all_cons, Bool.and_eq_true] at hp
      obtain ⟨k1, k2⟩ := form_of_ok hp.1 (hok 0 t v rfl rfl)
      obtain ⟨x, hx⟩ := arg_ok k1 k2 hp.1 h1
      obtain ⟨xs, hxs⟩ := args_ok hp.2 (fun j t v a b => hok (j + 1) t v (by simpa using a) (by simpa using b)) h2
      exact ⟨x :: xs, hx, hxs⟩
theorem ArgsR.tr {D : Nat} : ∀ {ts : List TypeId} {xs : List AV} {vs : List Value}, ArgsR P W D ts xs vs → TR (gW W) xs vs
  | [], [], [], _ => .nil _
  | _ :: _, _ :: _, _ :: _, h => .cons h.1.1 (ArgsR.tr h.2)
theorem trodAll_len {sp : Nat → Bool} {base : Nat} {held : Bool} : ∀ {ts : List TypeId} {vs : List Value} {ds : List (DataW H)} {ps : List MemPlace}, DataW.TrodAll enc P W base sp held ts vs ds ps → ds.length = ts.length ∧ vs.length = ts.length
  | [], vs, ds, ps, h => by
    match vs, ds, h with
    | [], [], h => exact ⟨rfl, rfl⟩
  | t :: ts, vs, ds, ps, h => by
    match vs, ds, h with
    | v :: vs, d :: ds, ⟨p, q, h1, h2, _⟩ =>
      obtain ⟨k1, k2⟩ := trodAll_len h2
      exact ⟨by simp [k1], by simp [k2]⟩
end
theorem law_contract {C : Checked} {f : FuncId} {fn : Func} {s : ChangeSpec} {apart fresh handsOn : Bool} {D : Nat} {tb : TypeId} {H : Type} {enc : TypeId × Value → H}
    (hvars : s.vars = []) (hspec : ∀ ds : List (DataW H), ds.length = fn.params.toList.length → s.fn H ds = { results := [.lit (.bool true)], args := ds })
    (hres : fn.resultTypes = #[tb]) (htb : C.prog.underlying tb = some .bool) (hplain : (fn.params.toList.all fun t => plainTy C.prog D t) = true)
    (walk : ∀ (W : World) (xs : List AV) (args : Array Value), ArgsR C.prog W D fn.params.toList xs args.toList → Calls C.prog f args W fun e W' => e = .returned (.bool true) ∧ Below W.heap.size W W')
    (W : World) (base : Nat) (args : Array Value) (ds gs : List (DataW H)) (before : List MemPlace)
    (hval : ∀ (j : Nat) t v, fn.params[j]? = some t → args[j]? = some v → Value.okWide C.prog W .any base t v)
    (hW : DataW.Whole enc C.prog fn.params.toList s.vars apart W args.toList ds gs before) :
    Calls C.prog f args W fun e W' => ∃ v, e = .returned v ∧ s.post enc C.prog fn apart fresh handsOn false W args v W' := by
  have hW' := hW
  obtain ⟨p, q, hA, hV, rfl, hfz, hnd⟩ := hW
  have hgs : gs = [] ∧ q = [] := by
    rw [hvars] at hV
    match gs, hV with
    | [], hV => exact ⟨rfl, hV⟩
  obtain ⟨rfl, rfl⟩ := hgs
  obtain ⟨xs, hxs⟩ := args_ok hplain (fun j t v a b => hval j t v (by simpa using a) (by simpa using b)) hA
  refine (walk W xs args hxs).mono fun e W' ⟨he, hb⟩ => ?_
  subst he
  have hsp := hspec ds (trodAll_len hA).1
  have hold : ∀ x ∈ p, (decide (x.block < W.heap.size)) = true := fun x hx => by
    have := hW'.lt x (by simp [hx])
    simpa using this
  refine ⟨_, rfl, ds, [], p ++ [], [], p, [], hW', ?_, ?_, ?_, World.keptBut_mono (fun x hx => ⟨hx, by simpa using hx⟩) (hb.frame (· ∈ p ++ [])), fun h => by cases h⟩
  · rw [List.append_nil, hsp, hres]
    exact trodAll_mk1 (shut_bool htb _)
  · rw [List.append_nil, hsp]
    exact trodAll_keep hb _ _ _ _ hplain hA hold
  · rw [List.append_nil, hsp, hvars]
    rfl
end Go.Sim
set_option linter.unusedVariables false
set_option linter.unusedSimpArgs false
namespace Go.Sim
abbrev Memo := FuncId → List AV → Option (Bool × AV)
section
variable (T : Tab) (M : Memo) (ex : Nat → Bool → IC → St → Option (Ex × St))
def callFM (lim : Nat) (f : FuncId) (args : List AV) (s : Hp) : Option (AV × Hp) :=
  match T f with
  | none => none
  | some fn =>
    if fn.pure then
      if args.all (closed 4) then
        match M f args with
        | some p => some (p.2, s)
        | none => match body ex 0 fn args { h := [], n := 0 } with
          | some (v, s') => (fz (look s'.h) 0 v).map fun v => (v, s)
          | none => none
      else if fn.frz then
        match mapO (fzA (look s.h) 6) args with
        | some as => match M f as with
          | some p => if p.1 then some (p.2, s) else none
          | none => match body ex 0 fn as { h := [], n := 0 } with
            | some (v, _) => if gnd 4 v then some (v, s) else none
            | none => none
        | none => none
      else
        match body ex s.n fn args s with
        | some (v, s') => (fz (look s'.h) s.n v).map fun v => (v, s)
        | none => none
    else body ex lim fn args s
def callVM (lim : Nat) (f : AV) (args : List AV) (s : Hp) : Option (AV × Hp) :=
  match f with
  | .fn (.func g) first cap => callFM T M ex lim g (first ++ args ++ cap) s
  | .fn (.yield l) [] [] => Sim.round ex lim l args s
  | _ => none
def stepM (lim : Nat) (k : OpK) (xs : List AV) (s : Hp) : Option (AV × Hp) :=
  match k with
  | .callF f => callFM T M ex lim f xs s
  | .callV => match xs with
    | f :: args => callVM T M ex lim f args s
    | [] => none
  | k => match doOp (look s.h) lim s.n k xs with
    | some o => some (o.v, o.apply s)
    | none => none
def runOpsM (lim : Nat) : List Sim.Op1 → St → Option St
  | [], σ => some σ
  | o :: os, σ =>
    if wanted σ.t o.guard then
      match evs σ.t o.xs with
      | some xs => match stepM T M ex lim o.k xs σ.s with
        | some (v, s) => runOpsM lim os { t := put σ.t o.dst v, s := s }
        | none => none
      | none => none
    else runOpsM lim os { t := put σ.t o.dst .undef, s := σ.s }
def runFootM (lim : Nat) (before : List Nat) : List Sim.Op1 → Nat → List Foot → St → Option (St × List Foot)
  | [], _, fs, σ => some (σ, fs)
  | o :: os, j, fs, σ =>
    if wanted σ.t o.guard then
      match evs σ.t o.xs with
      | some xs =>
        let ft := foot T o.k xs
        if ft.all = 1 then
          match stepM T M ex lim o.k xs { h := hide (unseen (before.getD j 0) j fs) σ.s.h, n := σ.s.n + (os.length + 1) } with
          | some (v, _) => runFootM lim before os (j + 1) (ft :: fs) { t := put σ.t o.dst v, s := σ.s }
          | none => none
        else
          match stepM T M ex lim o.k xs σ.s with
          | some (v, s) => runFootM lim before os (j + 1) ({ ft with al := List.range' σ.s.n (s.n - σ.s.n) } :: fs) { t := put σ.t o.dst v, s := s }
          | none => none
      | none => none
    else runFootM lim before os (j + 1) ({} :: fs) { t := put σ.t o.dst .undef, s := σ.s }
end
def execM (T : Tab) (M : Memo) : Nat → Nat → Bool → IC → St → Option (Ex × St)
  | 0, _, _, _, _ => none
  | d + 1, lim, rd, c, σ =>
    match c with
    | .skip => some (.normal, σ)
    | .reg ops => (runOpsM T M (execM T M d) lim ops σ).map fun σ => (.normal, σ)
    | .regD ops before => match runFootM T M (execM T M d) lim before ops 0 [] σ with
      | some (τ, fs) => if drawOK before fs fs.length then some (.normal, τ) else none
      | none => none
    | .seq a b => match execM T M d lim rd a σ with
      | some (.normal, σ) => execM T M d lim rd b σ
      | r => r
    | .cond c a b => match c.ev σ.t with
      | some (.v (.bool t)) => execM T M d lim rd (if t then a else b) σ
      | _ => none
    | .block id c => match execM T M d lim rd c σ with
      | some (.exit i, σ) => if i = id then some (.normal, σ) else some (.exit i, σ)
      | r => r
    | .loop c => match execM T M d lim rd c { t := σ.t, s := { h := .mark :: σ.s.h, n := σ.s.n } } with
      | some (.normal, σ) => execM T M d lim rd (.loop c) { t := σ.t, s := { h := popMark σ.s.h, n := σ.s.n } }
      | some (e, σ) => some (e, { t := σ.t, s := { h := popMark σ.s.h, n := σ.s.n } })
      | none => none
    | .rangeF f params assign bd =>
      if rd then none else
      match f.ev σ.t with
      | some (.fn (.func g) first cap) =>
        match callFM T M (execM T M d) lim g (first ++ [.fn (.yield σ.s.n) [] []] ++ cap) { h := .ob σ.s.n (.loop .ready none σ.t params assign bd) :: σ.s.h, n := σ.s.n + 1 } with
        | some (_, s) => match look s.h σ.s.n with
          | some (.loop st pend _ _ _ _) => if st = .busy then none else
            match endRound σ.s.n s .exhausted pend with
            | none => none
            | some s => match pend with
              | none => some (.normal, { t := σ.t, s := s })
              | some .ret => some (.ret, { t := σ.t, s := s })
              | some (.exit id) => some (.exit id, { t := σ.t, s := s })
              | _ => none
          | _ => none
        | none => none
      | _ => none
    | .exit id => some (.exit id, σ)
    | .ret => some (.ret, σ)
section
variable {T : Tab} {M : Memo} {ex ex' : Nat → Bool → IC → St → Option (Ex × St)}
def MemoOK (T : Tab) (M : Memo) (ex : Nat → Bool → IC → St → Option (Ex × St)) : Prop := ∀ f args g v, M f args = some (g, v) → ∃ fn w s', T f = some fn ∧ fn.pure = true ∧ body ex 0 fn args { h := [], n := 0 } = some (w, s') ∧ fz (look s'.h) 0 w = some v ∧ (g = true → w = v ∧ gnd 4 w = true)
theorem memo_callF (hx : MonoX ex ex') (hM : MemoOK T M ex') {lim : Nat} {f : FuncId} {args : List AV} {s : Hp} {r : AV × Hp} (h : callFM T M ex lim f args s = some r) : callF T ex' lim f args s = some r := by
  unfold callFM at h; unfold callF
  split at h
  · cases h
  · rename_i fn hfn
    (try simp only [hfn])
    split at h
    · rename_i hp
      rw [if_pos hp]
      split at h
      · rename_i hc
        rw [if_pos hc]
        split at h
        · rename_i p hp2
          obtain ⟨g, v⟩ := p
          obtain ⟨fn', w, s', q1, q2, q3, q4, q5⟩ := hM _ _ _ _ hp2
          rw [hfn] at q1
          cases q1
          simp only [q3, q4, Option.map_some]
          exact h
        · split at h
          · rename_i hb; rw [mono_body hx hb]; exact h
          · cases h
      · rename_i hc
        rw [if_neg hc]
        split at h
        · rename_i hz
          rw [if_pos hz]
          split at h
          · rename_i as hfa
            (try simp only [hfa])
            split at h
            · rename_i p hp2
              obtain ⟨g, v⟩ := p
              obtain ⟨fn', w, s', q1, q2, q3, q4, q5⟩ := hM _ _ _ _ hp2
              rw [hfn] at q1
              cases q1
              cases g with
              | false => simp at h
              | true =>
                obtain ⟨rfl, q6⟩ := q5 rfl
                simp only [q3, q6, if_true]
                simpa using h
            · split at h
              · rename_i hb; rw [mono_body hx hb]; exact h
              · cases h
          · cases h
        · rename_i hz
          rw [if_neg hz]
          split at h
          · rename_i hb; rw [mono_body hx hb]; exact h
          · cases h
    · rename_i hp
      rw [if_neg hp]
      exact mono_body hx h
theorem memo_step (hx : MonoX ex ex') (hM : MemoOK T M ex') {lim : Nat} {k : OpK} {xs : List AV} {s : Hp} {r : AV × Hp} (h : stepM T M ex lim k xs s = some r) : step T ex' lim k xs s = some r := by
  unfold stepM at h; unfold step
  split at h
  · exact memo_callF hx hM h
  · split at h
    · unfold callVM at h; unfold callV
      split at h
      · exact memo_callF hx hM h
      · exact mono_round hx h
      · cases h
    · cases h
  · rename_i n1 n2
    split
    · exact (n1 _ rfl).elim
    · exact (n2 rfl).elim
    · exact h
theorem memo_runOps (hx : MonoX ex ex') (hM : MemoOK T M ex') {lim : Nat} : ∀ {os : List Sim.Op1} {σ τ : St}, runOpsM T M ex lim os σ = some τ → runOps T ex' lim os σ = some τ
  | [], σ, τ, h => h
  | o :: os, σ, τ, h => by
    simp only [runOpsM] at h; simp only [runOps]
    split at h
    · rename_i hw
      rw [if_pos hw]
      split at h
      · rename_i hxs
        (try simp only [hxs])
        split at h
        · rename_i hst
          simp only [memo_step hx hM hst]
          exact memo_runOps hx hM h
        · cases h
      · cases h
    · rename_i hw
      rw [if_neg hw]
      exact memo_runOps hx hM h
theorem memo_runFoot (hx : MonoX ex ex') (hM : MemoOK T M ex') {lim : Nat} {before : List Nat} : ∀ {os : List Sim.Op1} {j : Nat} {fs : List Foot} {σ : St} {r : St × List Foot}, runFootM T M ex lim before os j fs σ = some r → runFoot T ex' lim before os j fs σ = some r
  | [], j, fs, σ, r, h => h
  | o :: os, j, fs, σ, r, h => by
    simp only [runFootM] at h; simp only [runFoot]
    split at h
    · rename_i hw
      rw [if_pos hw]
      split at h
      · rename_i hxs
        (try simp only [hxs])
        split at h
        · rename_i ha
          rw [if_pos ha]
          split at h
          · rename_i hst
            simp only [memo_step hx hM hst]
            exact memo_runFoot hx hM h
          · cases h
        · rename_i ha
          rw [if_neg ha]
          split at h
          · rename_i hst
            simp only [memo_step hx hM hst]
            exact memo_runFoot hx hM h
          · cases h
      · cases h
    · rename_i hw
      rw [if_neg hw]
      exact memo_runFoot hx hM h
theorem memo_exec (T : Tab) (M : Memo) {D : Nat} (hM : ∀ d, D ≤ d → MemoOK T M (exec T d)) : ∀ d, MonoX (execM T M d) (exec T (D + d))
  | 0, lim, rd, c, σ, r, h => by simp [execM] at h
  | d + 1, lim, rd, c, σ, r, h => by
    have ih := memo_exec T M hM d
    have hm := hM (D + d) (Nat.le_add_right _ _)
    rw [show D + (d + 1) = (D + d) + 1 from rfl]
    cases c with
    | skip => simpa only [execM, exec] using h
    | reg ops =>
      simp only [execM, Option.map_eq_some_iff] at h
      obtain ⟨τ, h, rfl⟩ := h
      rw [exec, memo_runOps ih hm h]
      rfl
    | regD ops before =>
      rw [execM] at h; rw [exec]
      split at h
      · rename_i hf
        rw [memo_runFoot ih hm hf]
        exact h
      · cases h
    | seq a b =>
      rw [execM] at h; rw [exec]
      split at h
      · rename_i ha
        rw [ih _ _ _ _ _ ha]
        exact ih _ _ _ _ _ h
      · rename_i hne
        have h2 := ih _ _ _ _ _ h
        rw [h2]
        obtain ⟨e, τ⟩ := r
        cases e with
        | normal => exact absurd h (hne τ)
        | ret => rfl
        | exit id => rfl
    | cond c a b =>
      rw [execM] at h; rw [exec]
      split at h
      · rename_i hc
        (try simp only [hc])
        exact ih _ _ _ _ _ h
      · cases h
    | block id c =>
      rw [execM] at h; rw [exec]
      split at h
      · rename_i ha
        rw [ih _ _ _ _ _ ha]
        exact h
      · rename_i hne
        have h2 := ih _ _ _ _ _ h
        rw [h2]
        obtain ⟨e, τ⟩ := r
        cases e with
        | normal => rfl
        | ret => rfl
        | exit id => exact absurd h (hne _ _)
    | loop c =>
      rw [execM] at h; rw [exec]
      split at h
      · rename_i ha
        rw [ih _ _ _ _ _ ha]
        exact ih _ _ _ _ _ h
      · rename_i e τ hne ha
        rw [ih _ _ _ _ _ ha]
        cases e with
        | normal => exact (hne rfl).elim
        | ret => exact h
        | exit id => exact h
      · cases h
    | rangeF f ps a b =>
      rw [execM] at h; rw [exec]
      split at h
      · cases h
      · rename_i hrd
        rw [if_neg hrd]
        split at h
        · rename_i hev
          (try simp only [hev])
          split at h
          · rename_i hc
            simp only [memo_callF ih hm hc]
            exact h
          · cases h
        · cases h
    | exit id => simpa only [execM, exec] using h
    | ret => simpa only [execM, exec] using h
end
end Go.Sim
set_option linter.unusedVariables false
set_option linter.unusedSimpArgs false
namespace Go.Sim
def valEq : Value → Value → Bool
  | .int k a, .int k' b => decide (k = k') && decide (a = b)
  | .bool a, .bool b => a == b
  | .string a, .string b => a.data.toList == b.data.toList
  | .pointer none, .pointer none => true
  | .slice none 0 0, .slice none 0 0 => true
  | .map none, .map none => true
  | .nilFunc, .nilFunc => true
  | .nilIface, .nilIface => true
  | _, _ => false
def lEq {A : Type} (f : A → A → Bool) : List A → List A → Bool
  | [], [] => true
  | a :: as, b :: bs => f a b && lEq f as bs
  | _, _ => false
def avEq : Nat → AV → AV → Bool
  | 0, _, _ => false
  | d + 1, x, y => match x, y with
    | .v a, .v b => valEq a b
    | .es, .es => true
    | .ip a, .ip b => lEq (avEq d) a b
    | .agg a, .agg b => lEq (avEq d) a b
    | .tup a, .tup b => lEq (avEq d) a b
    | .is e a, .is e' b => decide (e = e') && lEq (lEq (avEq d)) a b
    | .im a, .im b => lEq (fun p q => avEq d p.1 q.1 && avEq d p.2 q.2) a b
    | .fn (.func f) a b, .fn (.func f') a' b' => decide (f = f') && lEq (avEq d) a a' && lEq (avEq d) b b'
    | _, _ => false
theorem valEq_ok {x y : Value} (h : valEq x y = true) : x = y := by
  unfold valEq at h
  split at h
  · simp only [Bool.and_eq_true, decide_eq_true_eq] at h
    obtain ⟨rfl, rfl⟩ := h; rfl
  · rw [eq_of_beq h]
  · rename_i a b
    have := eq_of_beq h
    congr 1
    cases a; cases b
    simp only at this
    congr 1
    exact Array.toList_inj.1 this
  · rfl
  · rfl
  · rfl
  · rfl
  · rfl
  · cases h
theorem lEq_ok {A : Type} {f : A → A → Bool} (hf : ∀ a b, f a b = true → a = b) : ∀ {l m : List A}, lEq f l m = true → l = m
  | [], [], _ => rfl
  | a :: as, b :: bs, h => by
    simp only [lEq, Bool.and_eq_true] at h
    rw [hf a b h.1, lEq_ok hf h.2]
  | [], _ :: _, h => by cases h
  | _ :: _, [], h => by cases h
theorem avEq_ok : ∀ (d : Nat) {x y : AV}, avEq d x y = true → x = y
  | 0, x, y, h => by simp [avEq] at h
  | d + 1, x, y, h => by
    have ih := fun x y h => avEq_ok d (x := x) (y := y) h
    unfold avEq at h
    split at h
    · rw [valEq_ok h]
    · rfl
    · rw [lEq_ok ih h]
    · rw [lEq_ok ih h]
    · rw [lEq_ok ih h]
    · simp only [Bool.and_eq_true, decide_eq_true_eq] at h
      rw [h.1, lEq_ok (fun a b h => lEq_ok ih h) h.2]
    · rw [lEq_ok (fun a b h => by
        simp only [Bool.and_eq_true] at h
        exact Prod.ext (ih _ _ h.1) (ih _ _ h.2)) h]
    · simp only [Bool.and_eq_true, decide_eq_true_eq] at h
      rw [h.1.1, lEq_ok ih h.1.2, lEq_ok ih h.2]
    · cases h
structure Fact where
  f : FuncId
  args : List AV
  g : Bool
  v : AV
def memo : List Fact → Memo
  | [], _, _ => none
  | x :: r, f, args => if x.f = f then (if lEq (avEq 14) x.args args then some (x.g, x.v) else memo r f args) else memo r f args
def FactAt (T : Tab) (ex : Nat → Bool → IC → St → Option (Ex × St)) (x : Fact) : Prop :=
  ∃ fn w s', T x.f = some fn ∧ fn.pure = true ∧ body ex 0 fn x.args { h := [], n := 0 } = some (w, s') ∧ fz (look s'.h) 0 w = some x.v ∧ (x.g = true → w = x.v ∧ gnd 4 w = true)
def GoodF (T : Tab) (x : Fact) : Prop := ∃ D, ∀ d, D ≤ d → FactAt T (exec T d) x
def GoodFs (T : Tab) (l : List Fact) : Prop := ∃ D, ∀ d, D ≤ d → ∀ x ∈ l, FactAt T (exec T d) x
theorem GoodFs.nil {T : Tab} : GoodFs T [] := ⟨0, fun d hd x hx => by simp at hx⟩
theorem GoodFs.cons {T : Tab} {x : Fact} {l : List Fact} (h : GoodF T x) (k : GoodFs T l) : GoodFs T (x :: l) := by
  obtain ⟨D, hD⟩ := h
  obtain ⟨D', hD'⟩ := k
  refine ⟨D + D', fun d hd y hy => ?_⟩
  rcases List.mem_cons.1 hy with rfl | hy
  · exact hD d (by omega)
  · exact hD' d (by omega) y hy
theorem memo_ok {T : Tab} {ex : Nat → Bool → IC → St → Option (Ex × St)} : ∀ {l : List Fact}, (∀ x ∈ l, FactAt T ex x) → MemoOK T (memo l) ex
  | [], _, f, args, g, v, h => by simp [memo] at h
  | x :: r, hl, f, args, g, v, h => by
    simp only [memo] at h
    split at h
    · rename_i hf
      split at h
      · rename_i ha
        cases h
        have := lEq_ok (fun a b h => avEq_ok 14 h) ha
        subst this hf
        exact hl x (by simp)
      · exact memo_ok (fun y hy => hl y (by simp [hy])) f args g v h
    · exact memo_ok (fun y hy => hl y (by simp [hy])) f args g v h
def checkF (T : Tab) (l : List Fact) (d : Nat) (x : Fact) : Bool :=
  match T x.f with
  | some fn => fn.pure && match body (execM T (memo l) d) 0 fn x.args { h := [], n := 0 } with
    | some (w, s') => (match fz (look s'.h) 0 w with
      | some v => avEq 14 v x.v
      | none => false) && (!x.g || (avEq 14 w x.v && gnd 4 w))
    | none => false
  | none => false
theorem good_of {T : Tab} {l : List Fact} {d : Nat} {x : Fact} (h : checkF T l d x = true) (hl : GoodFs T l) : GoodF T x := by
  obtain ⟨D, hD⟩ := hl
  have hx := memo_exec T (memo l) (D := D) (fun d hd => memo_ok (hD d hd)) d
  unfold checkF at h
  split at h
  · rename_i fn hfn
    simp only [Bool.and_eq_true] at h
    obtain ⟨hp, h⟩ := h
    split at h
    · rename_i w s' hb
      simp only [Bool.and_eq_true, Bool.or_eq_true, Bool.not_eq_true'] at h
      obtain ⟨h1, h2⟩ := h
      split at h1
      · rename_i v hv
        have := avEq_ok 14 h1
        subst this
        refine ⟨D + d, fun d' hd => ⟨fn, w, s', hfn, hp, mono_body (mono_le T hd) (mono_body hx hb), hv, fun hg => ?_⟩⟩
        rcases h2 with h2 | h2
        · rw [h2] at hg; cases hg
        · exact ⟨avEq_ok 14 h2.1, h2.2⟩
      · cases h1
    · cases h
  · cases h
end Go.Sim
set_option linter.unusedVariables false
set_option linter.unusedSimpArgs false
namespace Go.Sim
def avEqN : Nat → AV → AV → Bool
  | 0, _, _ => false
  | d + 1, x, y => match x, y with
    | .undef, .undef => true
    | .sl a b c o l p, .sl a' b' c' o' l' p' => decide (a = a') && decide (b = b') && decide (c = c') && decide (o = o') && decide (l = l') && decide (p = p')
    | .ptr a b c o, .ptr a' b' c' o' => decide (a = a') && decide (b = b') && decide (c = c') && decide (o = o')
    | .map a, .map a' => decide (a = a')
    | .agg a, .agg b => lEq (avEqN d) a b
    | .tup a, .tup b => lEq (avEqN d) a b
    | .fn (.func f) a b, .fn (.func f') a' b' => decide (f = f') && lEq (avEqN d) a a' && lEq (avEqN d) b b'
    | x, y => avEq d x y
theorem avEqN_ok : ∀ (d : Nat) {x y : AV}, avEqN d x y = true → x = y
  | 0, x, y, h => by simp [avEqN] at h
  | d + 1, x, y, h => by
    have ih := fun x y h => avEqN_ok d (x := x) (y := y) h
    unfold avEqN at h
    split at h
    · rfl
    · simp only [Bool.and_eq_true, decide_eq_true_eq] at h
      obtain ⟨⟨⟨⟨⟨rfl, rfl⟩, rfl⟩, rfl⟩, rfl⟩, rfl⟩ := h; rfl
    · simp only [Bool.and_eq_true, decide_eq_true_eq] at h
      obtain ⟨⟨⟨rfl, rfl⟩, rfl⟩, rfl⟩ := h; rfl
    · rw [of_decide_eq_true h]
    · rw [lEq_ok ih h]
    · rw [lEq_ok ih h]
    · simp only [Bool.and_eq_true, decide_eq_true_eq] at h
      rw [h.1.1, lEq_ok ih h.1.2, lEq_ok ih h.2]
    · exact avEq_ok d h
def aoEq : AO → AO → Bool
  | .arr b ty e v els, .arr b' ty' e' v' els' => (b == b') && decide (ty = ty') && decide (e = e') && decide (v = v') && lEq (lEq (avEqN 14)) els els'
  | .map es, .map es' => lEq (fun p q => avEqN 14 p.1 q.1 && avEqN 14 p.2 q.2) es es'
  | _, _ => false
theorem aoEq_ok {x y : AO} (h : aoEq x y = true) : x = y := by
  unfold aoEq at h
  split at h
  · simp only [Bool.and_eq_true, decide_eq_true_eq] at h
    obtain ⟨⟨⟨⟨h1, rfl⟩, rfl⟩, rfl⟩, h2⟩ := h
    rw [eq_of_beq h1, lEq_ok (fun a b h => lEq_ok (fun a b h => avEqN_ok 14 h) h) h2]
  · rw [lEq_ok (fun a b h => by
        simp only [Bool.and_eq_true] at h
        exact Prod.ext (avEqN_ok 14 h.1) (avEqN_ok 14 h.2)) h]
  · cases h
def entEq : Ent → Ent → Bool
  | .mark, .mark => true
  | .ob i o, .ob i' o' => decide (i = i') && aoEq o o'
  | _, _ => false
theorem entEq_ok {x y : Ent} (h : entEq x y = true) : x = y := by
  unfold entEq at h
  split at h
  · rfl
  · simp only [Bool.and_eq_true, decide_eq_true_eq] at h
    rw [h.1, aoEq_ok h.2]
  · cases h
def stEq (x y : St) : Bool := lEq (avEqN 14) x.t y.t && (lEq entEq x.s.h y.s.h && decide (x.s.n = y.s.n))
theorem stEq_ok {x y : St} (h : stEq x y = true) : x = y := by
  simp only [stEq, Bool.and_eq_true, decide_eq_true_eq] at h
  obtain ⟨h1, h2, h3⟩ := h
  cases x with
  | mk t s => cases y with
    | mk t' s' => cases s with
      | mk hp n => cases s' with
        | mk hp' n' =>
          simp only at h1 h2 h3
          rw [lEq_ok (fun a b h => avEqN_ok 14 h) h1, lEq_ok (fun a b h => entEq_ok h) h2, h3]
def Runs (T : Tab) (c : IC) (σ : St) (e : Ex) (τ : St) : Prop := ∃ D, ∀ d, D ≤ d → exec T d 0 false c σ = some (e, τ)
def checkS (T : Tab) (l : List Fact) (d : Nat) (c : IC) (σ : St) (e : Ex) (τ : St) : Bool :=
  match execM T (memo l) d 0 false c σ with
  | some (e', τ') => decide (e' = e) && stEq τ' τ
  | none => false
theorem runs_of {T : Tab} {l : List Fact} {d : Nat} {c : IC} {σ τ : St} {e : Ex} (h : checkS T l d c σ e τ = true) (hl : GoodFs T l) : Runs T c σ e τ := by
  obtain ⟨D, hD⟩ := hl
  have hx := memo_exec T (memo l) (D := D) (fun d hd => memo_ok (hD d hd)) d
  unfold checkS at h
  split at h
  · rename_i e' τ' hr
    simp only [Bool.and_eq_true, decide_eq_true_eq] at h
    obtain ⟨rfl, h2⟩ := h
    have := stEq_ok h2
    subst this
    exact ⟨D + d, fun d' hd => mono_le T hd _ _ _ _ _ (hx _ _ _ _ _ hr)⟩
  · cases h
section
variable {T : Tab} {a b c : IC} {σ τ ρ : St} {e : Ex}
theorem Runs.seq (h : Runs T a σ .normal τ) (k : Runs T b τ e ρ) : Runs T (.seq a b) σ e ρ := by
  obtain ⟨D, h⟩ := h
  obtain ⟨D', k⟩ := k
  refine ⟨D + D' + 1, fun d hd => ?_⟩
  obtain ⟨d, rfl⟩ : ∃ d', d = d' + 1 := ⟨d - 1, by omega⟩
  simp only [exec, h d (by omega)]
  exact k d (by omega)
theorem Runs.seq_inv (h : Runs T (.seq a b) σ .normal τ) : ∃ ρ, Runs T a σ .normal ρ ∧ Runs T b ρ .normal τ := by
  obtain ⟨D, h⟩ := h
  have h1 := h (D + 1) (by omega)
  simp only [exec] at h1
  split at h1
  · rename_i ρ ha
    exact ⟨ρ, ⟨D, fun d hd => mono_le T hd _ _ _ _ _ ha⟩, ⟨D, fun d hd => mono_le T hd _ _ _ _ _ h1⟩⟩
  · rename_i hne
    exact absurd h1 (hne τ)
theorem Runs.block {id : Nat} (h : Runs T c σ (.exit id) τ) : Runs T (.block id c) σ .normal τ := by
  obtain ⟨D, h⟩ := h
  refine ⟨D + 1, fun d hd => ?_⟩
  obtain ⟨d, rfl⟩ : ∃ d', d = d' + 1 := ⟨d - 1, by omega⟩
  simp only [exec, h d (by omega), if_true]
def markS (σ : St) : St := { t := σ.t, s := { h := .mark :: σ.s.h, n := σ.s.n } }
def popS (σ : St) : St := { t := σ.t, s := { h := popMark σ.s.h, n := σ.s.n } }
theorem Runs.loop (h : Runs T c (markS σ) .normal τ) (k : Runs T (.loop c) (popS τ) e ρ) : Runs T (.loop c) σ e ρ := by
  obtain ⟨D, h⟩ := h
  obtain ⟨D', k⟩ := k
  refine ⟨D + D' + 1, fun d hd => ?_⟩
  obtain ⟨d, rfl⟩ : ∃ d', d = d' + 1 := ⟨d - 1, by omega⟩
  have h := h d (by omega)
  unfold markS at h
  rw [exec]
  simp only [h]
  exact k d (by omega)
theorem Runs.leave {id : Nat} (h : Runs T c (markS σ) (.exit id) τ) : Runs T (.loop c) σ (.exit id) (popS τ) := by
  obtain ⟨D, h⟩ := h
  refine ⟨D + 1, fun d hd => ?_⟩
  obtain ⟨d, rfl⟩ : ∃ d', d = d' + 1 := ⟨d - 1, by omega⟩
  have h := h d (by omega)
  unfold markS at h
  rw [exec]
  simp only [h]
  rfl
def checkL (T : Tab) (l : List Fact) (d : Nat) (c : IC) (σ : St) (e : Ex) (τ : St) : Bool :=
  match execM T (memo l) d 0 false c (markS σ) with
  | some (e', τ') => decide (e' = e) && stEq (popS τ') τ
  | none => false
theorem round_of {l : List Fact} {d : Nat} (h : checkL T l d c σ e τ = true) (hl : GoodFs T l) : ∃ τ', Runs T c (markS σ) e τ' ∧ popS τ' = τ := by
  obtain ⟨D, hD⟩ := hl
  have hx := memo_exec T (memo l) (D := D) (fun d hd => memo_ok (hD d hd)) d
  unfold checkL at h
  split at h
  · rename_i e' τ' hr
    simp only [Bool.and_eq_true, decide_eq_true_eq] at h
    obtain ⟨rfl, h2⟩ := h
    exact ⟨τ', ⟨D + d, fun d' hd => mono_le T hd _ _ _ _ _ (hx _ _ _ _ _ hr)⟩, stEq_ok h2⟩
  · cases h
theorem Runs.loopL {l : List Fact} {d : Nat} (h : checkL T l d c σ .normal τ = true) (hl : GoodFs T l) (k : Runs T (.loop c) τ e ρ) : Runs T (.loop c) σ e ρ := by
  obtain ⟨τ', h1, rfl⟩ := round_of h hl
  exact h1.loop k
theorem Runs.leaveL {l : List Fact} {d id : Nat} (h : checkL T l d c σ (.exit id) τ = true) (hl : GoodFs T l) : Runs T (.loop c) σ (.exit id) τ := by
  obtain ⟨τ', h1, rfl⟩ := round_of h hl
  exact h1.leave
theorem good_runs {x : Fact} {fn : IFn} {w : AV} (hf : T x.f = some fn) (hp : fn.pure = true) (he : ∀ i, e ≠ .exit i)
    (h : Runs T fn.body { t := x.args ++ List.replicate (fn.ntmps - x.args.length) .undef, s := { h := [], n := 0 } } e τ)
    (hr : results (look τ.s.h) τ.t fn.res = some w) (hz : fz (look τ.s.h) 0 w = some x.v) (hg : x.g = true → w = x.v ∧ gnd 4 w = true) : GoodF T x := by
  obtain ⟨D, h⟩ := h
  refine ⟨D, fun d hd => ⟨fn, w, τ.s, hf, hp, ?_, hz, hg⟩⟩
  simp only [body, h d hd]
  cases e with
  | exit i => exact absurd rfl (he i)
  | normal => simp only [hr, Option.map_some]
  | ret => simp only [hr, Option.map_some]
end
end Go.Sim
