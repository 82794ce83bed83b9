import Derived.Test.YtflklffaiianhaaGreatLaA
import Derived.Below
import Derived.ChangeSame
import Derived.DataReads
import Derived.LoopNIn
import Derived.OpenShut
import Derived.OrdersIn
import Derived.ProofKit
import Derived.RangeFuncLeaves
import GoSem.ClaimChange
/- A text of the proof of MultirestFinds. -/
set_option linter.unusedVariables false
set_option linter.unusedSimpArgs false
namespace Go.Sim
section
variable {P : Program} {g : Gh} {lim : Nat} {w : World} {L : Nat → Option AO} {n : Nat}
variable (ρ : Operand → Value) (o : Oper) {k : OpK} {os : List Operand} {xs : List AV} {out : Out}
theorem keyEq_run {kt : TypeId} {agg : Bool} {ks : List CK} (hk : keyKinds P kt = some (agg, ks)) {a b : AV} {A B : Value} {r : Bool} (ha : VR g a A) (hb : VR g b B) (h : keyEq agg ks a b = some r) :
    (Op.equal kt A B).run P w = .ok r w := by
  unfold keyKinds at hk
  unfold keyEq at h
  split at hk
  · rename_i hu
    simp only [Option.map_eq_some_iff, Prod.mk.injEq] at hk
    obtain ⟨ks', h1, rfl, rfl⟩ := hk
    simp only [Bool.false_eq_true, if_false] at h
    have hks : ks' = [.b] := by simp [kindsOf, hu] at h1; exact h1.symm
    have := eq_kinds (P := P) (g := g) 1 kt ks' h1 10000 (by omega) [a] [b] [A] [B] r w (.cons ha (.nil g)) (.cons hb (.nil g)) (by rw [hks]; rfl) (by rw [hks]; rfl) h
    simp only [mkv, isAggB, hu] at this; exact this
  · rename_i kk hu
    simp only [Option.map_eq_some_iff, Prod.mk.injEq] at hk
    obtain ⟨ks', h1, rfl, rfl⟩ := hk
    simp only [Bool.false_eq_true, if_false] at h
    have hks : ks' = [.i] := by simp [kindsOf, hu] at h1; exact h1.symm
    have := eq_kinds (P := P) (g := g) 1 kt ks' h1 10000 (by omega) [a] [b] [A] [B] r w (.cons ha (.nil g)) (.cons hb (.nil g)) (by rw [hks]; rfl) (by rw [hks]; rfl) h
    simp only [mkv, isAggB, hu] at this; exact this
  · rename_i hu
    simp only [Option.map_eq_some_iff, Prod.mk.injEq] at hk
    obtain ⟨ks', h1, rfl, rfl⟩ := hk
    simp only [Bool.false_eq_true, if_false] at h
    have hks : ks' = [.s] := by simp [kindsOf, hu] at h1; exact h1.symm
    have := eq_kinds (P := P) (g := g) 1 kt ks' h1 10000 (by omega) [a] [b] [A] [B] r w (.cons ha (.nil g)) (.cons hb (.nil g)) (by rw [hks]; rfl) (by rw [hks]; rfl) h
    simp only [mkv, isAggB, hu] at this; exact this
  · rename_i fs hu
    split at hk
    · simp only [Option.map_eq_some_iff, Prod.mk.injEq] at hk
      obtain ⟨ks', h1, rfl, rfl⟩ := hk
      simp only [if_true] at h
      split at h
      · rename_i as bs
        split at h
        · rename_i hc
          obtain ⟨c1, c2⟩ := hc
          cases ha with
          | @agg _ _ Cs hl hcell hv =>
            cases hb with
            | @agg _ _ Ds hl2 hcell2 hv2 =>
              have := eq_kinds (P := P) (g := g) 2 kt ks' h1 10000 (by omega) as bs Cs.toList Ds.toList r w ⟨by simpa using hl, fun i x y a b => hv i x y a (by simpa using b)⟩
                ⟨by simpa using hl2, fun i x y a b => hv2 i x y a (by simpa using b)⟩ c1 c2 h
              simp only [mkv, isAggB, hu] at this; exact this
        · cases h
      · cases h
    · cases hk
  · cases hk
theorem forIn_pure {α : Type} (f : α → PUnit → Sem (ForInStep PUnit)) : ∀ (l : List α) (w : World), (∀ a ∈ l, ∀ w, (f a ⟨⟩).run P w = .ok (.yield ⟨⟩) w) → (forIn l PUnit.unit f).run P w = .ok ⟨⟩ w
  | [], w, h => by simp
  | a :: l, w, h => by
    simp only [List.forIn_cons, Sem.run_bind, h a (by simp), Result.andThen_ok]
    exact forIn_pure f l w (fun b hb => h b (by simp [hb]))
theorem checkKey_run {kt : TypeId} {agg : Bool} {ks : List CK} (hk : keyKinds P kt = some (agg, ks)) {a : AV} {A : Value} (ha : VR g a A) (hkey : agg = true → ∃ as, a = .agg as ∧ as.length = ks.length) (e : Bool) :
    (Instr.checkKey e 10000 kt A).run P w = .ok () w := by
  have scalar : ∀ {d : TypeDesc} {m : Nat} {t : TypeId} {V : Value} {w : World}, P.underlying t = some d → (d = .bool ∨ (∃ k, d = .int k) ∨ d = .string) → (Instr.checkKey e (m + 1) t V).run P w = .ok () w := by
    intro d m t V w hu hd
    rw [Instr.checkKey]
    simp only [Sem.run_bind, run_underlying hu, Result.andThen_ok]
    rcases hd with rfl | ⟨k, rfl⟩ | rfl <;> (cases V <;> rfl)
  unfold keyKinds at hk
  split at hk
  · rename_i hu; exact scalar hu (.inl rfl)
  · rename_i kk hu; exact scalar hu (.inr (.inl ⟨_, rfl⟩))
  · rename_i hu; exact scalar hu (.inr (.inr rfl))
  · rename_i fs hu
    split at hk
    · rename_i hall
      simp only [Option.map_eq_some_iff, Prod.mk.injEq] at hk
      obtain ⟨ks', h1, rfl, rfl⟩ := hk
      obtain ⟨as, rfl, hlen⟩ := hkey rfl
      cases ha with
      | @agg _ _ Cs hl hcell hv =>
        rw [Instr.checkKey]
        simp only [Sem.run_bind, run_underlying hu, Result.andThen_ok]
        rw [← Array.forIn_toList]
        -- where the fields lie
        have hfs : ∀ (l : List Field) (off : Nat) (ks : List CK), kindsFs (kindsOf P 1) P l off = some ks → ∀ f ∈ l, f.offset < off + ks.length := by
          intro l
          induction l with
          | nil => intro off ks h f hf; simp at hf
          | cons x l ih =>
            intro off ks h f hf
            simp only [kindsFs] at h
            split at h
            · rename_i hc
              split at h
              · rename_i k1 i hk1 hi
                split at h
                · rename_i hz
                  split at h
                  · rename_i k2 hk2
                    cases h
                    rcases List.mem_cons.1 hf with rfl | hf
                    · rw [hc.1, List.length_append]
                      omega
                    · have := ih _ _ hk2 f hf
                      rw [List.length_append]
                      omega
                  · cases h
                · cases h
              · cases h
            · cases h
        have hko : kindsFs (kindsOf P 1) P fs.toList 0 = some ks' := by
          rw [kindsOf] at h1
          simp only [hu] at h1
          split at h1
          · cases h1
          · exact h1
        have hoff := hfs fs.toList 0 ks' hko
        refine (congrArg (fun r => Result.andThen r _) (forIn_pure (P := P) _ fs.toList w (fun f hf w => by
          have h2 := List.all_eq_true.1 hall f hf
          have hlt : f.offset < Cs.size := by have := hoff f hf; omega
          have hsc : ∃ d, P.underlying f.type = some d ∧ (d = .bool ∨ (∃ k, d = .int k) ∨ d = .string) := by
            revert h2
            split
            · rename_i h3; intro _; exact ⟨_, h3, .inl rfl⟩
            · rename_i h3; intro _; exact ⟨_, h3, .inr (.inl ⟨_, rfl⟩)⟩
            · rename_i h3; intro _; exact ⟨_, h3, .inr (.inr rfl)⟩
            · intro h; cases h
          obtain ⟨d, h3, h4⟩ := hsc
          have hna : isAggB P f.type = false := by unfold isAggB; rw [h3]; rcases h4 with rfl | ⟨k, rfl⟩ | rfl <;> rfl
          have hp : (part f.type Cs f.offset).run P w = .ok Cs[f.offset] w := part_S (by rw [h3]; simp) hna (by simp [hlt])
          by_cases hnm : f.name = "_"
          · simp [hnm]
          · have hck := scalar (m := 9998) (V := Cs[f.offset]) (w := w) h3 h4
            simp [hnm, hp, hck]))).trans ?_
        rfl
    · cases hk
  · cases hk
theorem keyOK_agg {agg : Bool} {ks : List CK} {a : AV} (h : keyOK agg ks a = true) : agg = true → ∃ as, a = .agg as ∧ as.length = ks.length := by
  rintro rfl
  cases a <;> simp_all [keyOK]
theorem ba_of_beq {a b : ByteArray} (h : (a == b) = true) : a = b := by
  rw [beq_toListBytes, ByteArray.toList_eq, ByteArray.toList_eq] at h
  exact ByteArray.ext (Array.toList_inj.mp (by simpa using h))
theorem ba_beq_self (a : ByteArray) : (a == a) = true := by rw [beq_toListBytes]; simp
theorem cellEq_same {c : CK} {x y : AV} {X Y : Value} (hx : VR g x X) (hy : VR g y Y) (h : cellEq c x y = some true) : X = Y ∧ ∀ n, Instr.sameBits n X Y = true := by
  unfold cellEq at h
  split at h
  · split at h
    · rename_i e
      cases h1 : hx with
      | v _ => cases h2 : hy with
        | v _ =>
          simp only [Option.some.injEq, beq_iff_eq] at h
          subst e; subst h
          exact ⟨rfl, fun n => by cases n <;> simp [Instr.sameBits]⟩
    · cases h
  · cases h1 : hx with
    | v _ => cases h2 : hy with
      | v _ =>
        simp only [Option.some.injEq, beq_iff_eq] at h
        subst h
        exact ⟨rfl, fun n => by cases n <;> simp [Instr.sameBits]⟩
  · cases h1 : hx with
    | v _ => cases h2 : hy with
      | v _ =>
        simp only [Option.some.injEq] at h
        have h : _ = _ := ba_of_beq h
        subst h
        exact ⟨rfl, fun n => by cases n <;> simp [Instr.sameBits, ba_beq_self]⟩
  · cases h
theorem cellsEq_same : ∀ (ks : List CK) (xs ys : List AV) (Xs Ys : List Value), TR g xs Xs → TR g ys Ys → cellsEq ks xs ys = some true → Xs = Ys ∧ ∀ n, (Xs.zip Ys).all (fun (x, y) => Instr.sameBits n x y) = true
  | [], [], [], Xs, Ys, hx, hy, h => by
    have h1 := hx.1; have h2 := hy.1
    cases Xs with
    | nil => cases Ys with
      | nil => exact ⟨rfl, fun _ => rfl⟩
      | cons _ _ => simp at h2
    | cons _ _ => simp at h1
  | k :: ks, x :: xs, y :: ys, Xs, Ys, hx, hy, h => by
    have h1 := hx.1; have h2 := hy.1
    cases Xs with
    | nil => simp at h1
    | cons X Xs => cases Ys with
      | nil => simp at h2
      | cons Y Ys =>
        simp only [cellsEq] at h
        split at h
        · rename_i hc
          obtain ⟨e1, e2⟩ := cellEq_same hx.head hy.head hc
          obtain ⟨e3, e4⟩ := cellsEq_same ks xs ys Xs Ys hx.tail hy.tail h
          subst e1; subst e3
          exact ⟨rfl, fun n => by simp only [List.zip_cons_cons, List.all_cons, e2 n, e4 n, Bool.and_self]⟩
        · cases h
        · cases h
  | [], _ :: _, _, _, _, _, _, h => by simp [cellsEq] at h
  | [], [], _ :: _, _, _, _, _, h => by simp [cellsEq] at h
  | _ :: _, [], _, _, _, _, _, h => by simp [cellsEq] at h
  | _ :: _, _ :: _, [], _, _, _, _, h => by simp [cellsEq] at h
theorem keyEq_same {agg : Bool} {ks : List CK} {a b : AV} {A B : Value} (ha : VR g a A) (hb : VR g b B) (h : keyEq agg ks a b = some true) : A = B ∧ ∀ n, Instr.sameBits (n + 1) A B = true := by
  unfold keyEq at h
  split at h
  · split at h
    · split at h
      · cases ha with
        | @agg _ _ Cs hl hcell hv =>
          cases hb with
          | @agg _ _ Ds hl2 hcell2 hv2 =>
            obtain ⟨e1, e2⟩ := cellsEq_same ks _ _ Cs.toList Ds.toList ⟨by simpa using hl, fun i x y a b => hv i x y a (by simpa using b)⟩
                ⟨by simpa using hl2, fun i x y a b => hv2 i x y a (by simpa using b)⟩ h
            have e3 : Cs = Ds := by cases Cs; cases Ds; simpa using e1
            refine ⟨by rw [e3], fun n => ?_⟩
            simp only [Instr.sameBits, e2 n, e3, beq_self_eq_true, Bool.true_and]
            rw [e3] at e2
            exact e2 n
      · cases h
    · cases h
  · obtain ⟨e1, e2⟩ := cellsEq_same ks _ _ [A] [B] (.cons ha (.nil g)) (.cons hb (.nil g)) h
    simp only [List.cons.injEq, and_true] at e1
    refine ⟨e1, fun n => ?_⟩
    have := e2 (n + 1)
    simpa using this
def FindR (agg : Bool) (ks : List CK) (k : AV) (es : List (AV × AV)) (ents : List MapEntry) (i : Nat) : Option (Nat × AV) → Option (Nat × Value) → Prop
  | none, none => True
  | some (j, x), some (j', y) => j = j' ∧ i ≤ j ∧ ∃ (k' : AV) (e : MapEntry), es[j - i]? = some (k', x) ∧ ents[j - i]? = some e ∧ y = e.val ∧ keyEq agg ks k k' = some true
  | _, _ => False
theorem FindR.cons {agg : Bool} {ks : List CK} {k : AV} {es : List (AV × AV)} {ents : List MapEntry} {i : Nat} {r : Option (Nat × AV)} {r' : Option (Nat × Value)} {a : AV × AV} {e : MapEntry} (h : FindR agg ks k es ents (i + 1) r r') :
    FindR agg ks k (a :: es) (e :: ents) i r r' := by
  match r, r', h with
  | none, none, h => trivial
  | some (j, x), some (j', y), ⟨h1, h2, k', e', h3, h4, h5, h6⟩ =>
    have : j - i = (j - (i + 1)) + 1 := by omega
    exact ⟨h1, by omega, k', e', by rw [this]; simpa using h3, by rw [this]; simpa using h4, h5, h6⟩
theorem find_asking {kt : TypeId} {agg : Bool} {ks : List CK} (hk : keyKinds P kt = some (agg, ks)) {k : AV} {K : Value} (hK : VR g k K) : ∀ (es : List (AV × AV)) (ents : List MapEntry) (i : Nat) (r : Option (Nat × AV)),
    ents.length = es.length → (∀ (i : Nat) (k x : AV) (e : MapEntry), es[i]? = some (k, x) → ents[i]? = some e → VR g k e.key) → findKey agg ks k es i = some r →
    ∃ r', (Instr.findAsking kt K ents i).run P w = .ok r' w ∧ FindR agg ks k es ents i r r'
  | [], [], i, r, _, _, h => by
    simp only [findKey, Option.some.injEq] at h
    subst h
    exact ⟨none, by simp [Instr.findAsking], trivial⟩
  | [], _ :: _, _, _, hl, _, _ => by simp at hl
  | _ :: _, [], _, _, hl, _, _ => by simp at hl
  | (k', x) :: es, e :: ents, i, r, hl, hv, h => by
    have hv0 := hv 0 k' x e rfl rfl
    simp only [findKey] at h
    split at h
    · rename_i hq
      cases h
      refine ⟨some (i, e.val), ?_, rfl, Nat.le_refl _, k', e, by simp, by simp, rfl, hq⟩
      simp [Instr.findAsking, keyEq_run hk hK hv0 hq]
    · rename_i hq
      obtain ⟨r', h1, h2⟩ := find_asking hk hK es ents (i + 1) r (by simpa using hl) (fun j k x e a b => hv (j + 1) k x e (by simpa using a) (by simpa using b)) h
      exact ⟨r', by simp [Instr.findAsking, keyEq_run hk hK hv0 hq, h1], h2.cons⟩
    · cases h
theorem find_now {d : TypeDesc} {c : CK} (hd : (d = .bool ∧ c = .b) ∨ (∃ q, d = .int q ∧ c = .i) ∨ (d = .string ∧ c = .s)) {k : AV} {K : Value} (hK : VR g k K) : ∀ (es : List (AV × AV)) (ents : List MapEntry) (i : Nat) (r : Option (Nat × AV)),
    ents.length = es.length → (∀ (i : Nat) (k x : AV) (e : MapEntry), es[i]? = some (k, x) → ents[i]? = some e → VR g k e.key) → findKey false [c] k es i = some r →
    ∃ r', Instr.findNow d K ents i = some r' ∧ FindR false [c] k es ents i r r'
  | [], [], i, r, _, _, h => by
    simp only [findKey, Option.some.injEq] at h
    subst h
    exact ⟨none, by simp [Instr.findNow], trivial⟩
  | [], _ :: _, _, _, hl, _, _ => by simp at hl
  | _ :: _, [], _, _, hl, _, _ => by simp at hl
  | (k', x) :: es, e :: ents, i, r, hl, hv, h => by
    have hv0 := hv 0 k' x e rfl rfl
    have hs : ∀ b, keyEq false [c] k k' = some b → Instr.sameNow d K e.key = some b := by
      intro b hb
      simp only [keyEq, Bool.false_eq_true, if_false, cellsEq] at hb
      have hb2 : cellEq c k k' = some b := by
        cases hc : cellEq c k k' with
        | none => simp [hc] at hb
        | some t => cases t <;> simp [hc] at hb <;> simp [hb]
      clear hl hv h hb
      have hb := hb2
      clear hb2
      unfold cellEq at hb
      split at hb
      · split at hb
        · rename_i e1
          subst e1
          have := hK.ground; have h0 := hv0.ground
          rcases hd with ⟨_, h⟩ | ⟨q, rfl, _⟩ | ⟨_, h⟩
          · cases h
          · rw [this, h0]; simpa [Instr.sameNow] using hb
          · cases h
        · cases hb
      · have := hK.ground; have h0 := hv0.ground
        rcases hd with ⟨rfl, _⟩ | ⟨q, _, h⟩ | ⟨_, h⟩
        · rw [this, h0]; simpa [Instr.sameNow] using hb
        · cases h
        · cases h
      · have := hK.ground; have h0 := hv0.ground
        rcases hd with ⟨_, h⟩ | ⟨q, _, h⟩ | ⟨rfl, _⟩
        · cases h
        · cases h
        · rw [this, h0]; simpa [Instr.sameNow] using hb
      · cases hb
    simp only [findKey] at h
    split at h
    · rename_i hq
      cases h
      exact ⟨some (i, e.val), by simp [Instr.findNow, hs _ hq], rfl, Nat.le_refl _, k', e, by simp, by simp, rfl, hq⟩
    · rename_i hq
      obtain ⟨r', h1, h2⟩ := find_now hd hK es ents (i + 1) r (by simpa using hl) (fun j k x e a b => hv (j + 1) k x e (by simpa using a) (by simpa using b)) h
      exact ⟨r', by simp [Instr.findNow, hs _ hq, h1], h2.cons⟩
    · cases h
theorem find_run {kt : TypeId} {agg : Bool} {ks : List CK} (hk : keyKinds P kt = some (agg, ks)) {k : AV} {K : Value} (hK : VR g k K) {es : List (AV × AV)} {ents : List MapEntry} {r : Option (Nat × AV)}
    (hl : ents.length = es.length) (hv : ∀ (i : Nat) (k x : AV) (e : MapEntry), es[i]? = some (k, x) → ents[i]? = some e → VR g k e.key) (h : findKey agg ks k es 0 = some r) :
    ∃ r', (Instr.findKey kt K ents).run P w = .ok r' w ∧ FindR agg ks k es ents 0 r r' := by
  have hk0 := hk
  unfold keyKinds at hk
  split at hk
  · rename_i hu
    simp only [Option.map_eq_some_iff, Prod.mk.injEq] at hk
    obtain ⟨ks', h1, rfl, rfl⟩ := hk
    have hks : ks' = [.b] := by simp [kindsOf, hu] at h1; exact h1.symm
    subst hks
    obtain ⟨r', h2, h3⟩ := find_now (d := .bool) (.inl ⟨rfl, rfl⟩) hK es ents 0 r hl hv h
    exact ⟨r', by simp [Instr.findKey, run_underlying hu, h2], h3⟩
  · rename_i q hu
    simp only [Option.map_eq_some_iff, Prod.mk.injEq] at hk
    obtain ⟨ks', h1, rfl, rfl⟩ := hk
    have hks : ks' = [.i] := by simp [kindsOf, hu] at h1; exact h1.symm
    subst hks
    obtain ⟨r', h2, h3⟩ := find_now (d := .int q) (.inr (.inl ⟨_, rfl, rfl⟩)) hK es ents 0 r hl hv h
    exact ⟨r', by simp [Instr.findKey, run_underlying hu, h2], h3⟩
  · rename_i hu
    simp only [Option.map_eq_some_iff, Prod.mk.injEq] at hk
    obtain ⟨ks', h1, rfl, rfl⟩ := hk
    have hks : ks' = [.s] := by simp [kindsOf, hu] at h1; exact h1.symm
    subst hks
    obtain ⟨r', h2, h3⟩ := find_now (d := .string) (.inr (.inr ⟨rfl, rfl⟩)) hK es ents 0 r hl hv h
    exact ⟨r', by simp [Instr.findKey, run_underlying hu, h2], h3⟩
  · rename_i fs hu
    obtain ⟨r', h2, h3⟩ := find_asking (w := w) hk0 hK es ents 0 r hl hv h
    exact ⟨r', (run_findKey_eq (P := P) (w := w) (k := kt) (by simp [hu]) K ents).trans h2, h3⟩
  · cases hk
theorem zeroAV_spec {t : TypeId} {z : AV} (h : zeroAV P t = some z) : ∃ i zv, P.info? t = some i ∧ i.zero = some zv ∧ ∀ g, VR g z zv := by
  unfold zeroAV at h
  cases hi : P.info? t with
  | none => simp [hi] at h
  | some i =>
    simp only [hi] at h
    cases hz : i.zero with
    | none => simp [hz] at h
    | some zv =>
      simp only [hz] at h
      refine ⟨i, zv, rfl, hz, fun g => ?_⟩
      unfold AV.ofValue at h
      split at h
      · rename_i cs
        split at h
        · rename_i hc
          cases h
          refine .agg (by simp) (fun i y hy => ground_isCell (List.all_eq_true.1 hc y (by
            rw [← Array.getElem?_toList] at hy
            exact List.mem_iff_getElem?.2 ⟨i, hy⟩))) (fun i x y hx hy => ?_)
          rw [← Array.getElem?_toList] at hy
          simp only [List.getElem?_map, hy, Option.map_some, Option.some.injEq] at hx
          subst hx
          exact .v (List.all_eq_true.1 hc y (List.mem_iff_getElem?.2 ⟨i, hy⟩))
        · cases h
      · rename_i cs
        split at h
        · rename_i hc
          cases h
          have : cs = #[] := by
            rw [List.isEmpty_iff] at hc
            cases cs
            simp_all
          subst this
          exact .tup (by simp) (fun i x y hx => by simp at hx)
        · cases h
      · split at h
        · rename_i hc
          cases h
          exact .v hc
        · cases h
theorem getObj_m {r : Nat} {es : Array MapEntry} {clock : Nat} (hb : w.heap[r]? = some (.map es clock)) : (getObj r).run P w = .ok (.map es clock) w := by
  simp [getObj, Sem.run, hb]
theorem setObj_m {r : Nat} {es : Array MapEntry} {clock : Nat} (o : Obj) (hb : w.heap[r]? = some (.map es clock)) : (setObj r o).run P w = .ok () { w with heap := w.heap.setIfInBounds r o } := by
  simp [setObj, Sem.run, hb]
theorem heap_set_m {r : Nat} {o o' : Obj} (hb : w.heap[r]? = some o) : (w.heap.setIfInBounds r o')[r]? = some o' ∧ ∀ r', r' ≠ r → (w.heap.setIfInBounds r o')[r']? = w.heap[r']? := by
  have hlt : r < w.heap.size := (Array.getElem?_eq_some_iff.1 hb).1
  exact ⟨by simp [hlt], fun r' hne => by simp [Ne.symm hne]⟩
def EntsR (g : Gh) (es : List (AV × AV)) (ents : List MapEntry) : Prop :=
  ents.length = es.length ∧ ∀ (i : Nat) (k x : AV) (e : MapEntry), es[i]? = some (k, x) → ents[i]? = some e → VR g k e.key ∧ VR g x e.val
theorem VR.unstill {a : AV} {A : Value} (h : VR g.still a A) : VR g a A := h.mono ⟨fun _ _ h => h, fun _ _ h => by simp [Gh.still] at h⟩
theorem entsOf_run {m : AV} {M : Value} {es : List (AV × AV)} (h : entsOf L m = some es) (hm : VR g m M) (hH : HR P g L w) (hW : WG g w) :
    ∃ ents : List MapEntry, EntsR g es ents ∧ ((M = .map none ∧ ents = []) ∨ ∃ r E clock, M = .map (some r) ∧ w.heap[r]? = some (.map E clock) ∧ E.toList = ents) := by
  unfold entsOf at h
  split at h
  · cases h
    exact ⟨[], ⟨rfl, fun i k x e h => by simp at h⟩, .inl ⟨hm.ground, rfl⟩⟩
  · rename_i id
    split at h
    · rename_i es' hL
      cases h
      obtain ⟨loc, E, clock, h1, h2, h3, h4, h5⟩ := hH id _ hL
      cases hm with
      | @map _ _ b loc' hi hp =>
        rw [h1] at hi
        cases hi
        have := hp h2
        subst this
        exact ⟨E.toList, ⟨by simpa using h4, fun i k x e a b => h5 i k x e a (by simpa using b)⟩, .inr ⟨_, E, clock, rfl, h3, rfl⟩⟩
    · cases h
  · cases h
    cases hm with
    | @im _ _ b clock E hb hl hk hv =>
      exact ⟨E.toList, ⟨by simpa using hl, fun i k x e a b => ⟨(hk i k x e a (by simpa using b)).unstill, (hv i k x e a (by simpa using b)).unstill⟩⟩, .inr ⟨_, E, clock, rfl, hW.still _ _ hb, rfl⟩⟩
  · cases h
theorem op_lookup {t kt e : TypeId} {x i : Operand} {ok agg : Bool} {ks : List CK} {z : AV} (ho : o.op = .lookup t x i ok) (hu : P.underlying t = some (.map kt e)) (hz : zeroAV P e = some z) (hk : keyKinds P kt = some (agg, ks))
    (hx : TR g xs [ρ x, ρ i]) (hd : doOp L lim n (.lookup agg ks z ok) xs = some out) (hH : HR P g L w) (hW : WG g w) : Good P g lim w L n out (execOp ρ o) := by
  obtain ⟨inf, zv, hi, hzv, hzr⟩ := zeroAV_spec hz
  match xs, hx with
  | [], hx => have := hx.1; simp at this
  | [_], hx => have := hx.1; simp at this
  | [m, k], hx =>
    have hm := hx.head
    have hkv := hx.tail.head
    simp only [doOp] at hd
    split at hd
    · rename_i hok
      have hck := fun b => checkKey_run (w := w) hk hkv (keyOK_agg hok) b
      have main : ∀ r, (∃ es, entsOf L m = some es ∧ findKey agg ks k es 0 = some r) → ∃ A, (Instr.lookup t (ρ x) (ρ i) ok).run P w = .ok (if ok then .tuple #[A, .bool r.isSome] else A) w ∧
          VR g (match r with | some (_, a) => a | none => z) A := by
        rintro r ⟨es, he, hf⟩
        obtain ⟨ents, hE, hM⟩ := entsOf_run he hm hH hW
        obtain ⟨r', h1, h2⟩ := find_run (w := w) hk hkv hE.1 (fun i k x e a b => (hE.2 i k x e a b).1) hf
        have hlk : (Instr.lookup t (ρ x) (ρ i) ok).run P w = ((Instr.findKey kt (ρ i) ents).run P w).andThen fun a w => (do
            let (v, b) ← match a with
              | some (_, v) => pure (v, true)
              | none => pure (← zeroValue e, false)
            pure (if ok then .tuple #[v, .bool b] else v) : Sem Value).run P w := by
          rcases hM with ⟨h3, h4⟩ | ⟨r0, E, clock, h3, h4, h5⟩
          · subst h4
            simp only [Instr.lookup, Sem.run_bind, run_underlying hu, Result.andThen_ok, h3, Sem.run_pure, hck]
            rfl
          · subst h5
            simp only [Instr.lookup, Sem.run_bind, run_underlying hu, Result.andThen_ok, h3, getObj_m h4, Sem.run_pure, hck]
            rfl
        rw [hlk, h1]
        match r, r', h2 with
        | none, none, _ => exact ⟨zv, by simp [zeroValue_run hi hzv], hzr g⟩
        | some (j, a), some (j', y), ⟨e1, e2, k', en, e3, e4, e5, e6⟩ =>
          refine ⟨y, by simp, ?_⟩
          rw [e5]
          exact (hE.2 _ _ _ _ e3 e4).2
      have done : ∀ (r : Option (Nat × AV)) (a : AV), out = { v := if ok then .tup [a, .v (.bool r.isSome)] else a } → (a = match r with | some (_, a) => a | none => z) → (∃ es, entsOf L m = some es ∧ findKey agg ks k es 0 = some r) → Good P g lim w L n out (execOp ρ o) := by
        intro r a hout ha hr
        obtain ⟨A, h1, h2⟩ := main r hr
        rw [← ha] at h2
        subst hout
        refine good_pure (V := if ok then .tuple #[A, .bool r.isSome] else A) ?_ ?_ hH hW
        · simp [execOp, ho, h1]
        · cases ok
          · simpa using h2
          · refine .tup (by simp) (fun i x y hx hy => ?_)
            match i, hx, hy with
            | 0, hx, hy =>
              simp at hx hy
              subst hx; subst hy; exact h2
            | 1, hx, hy =>
              simp at hx hy
              subst hx; subst hy; exact .v rfl
            | i + 2, hx, hy => simp at hx
      split at hd
      · rename_i es hes
        split at hd
        · rename_i j a hr
          cases hd
          exact done (some (j, a)) a rfl rfl ⟨es, hes, hr⟩
        · rename_i hr
          cases hd
          exact done none z rfl rfl ⟨es, hes, hr⟩
        · cases hd
      · cases hd
    · cases hd
  | _ :: _ :: _ :: _, hx => have := hx.1; simp at this
theorem op_mapup {t kt e : TypeId} {m i x : Operand} {agg : Bool} {ks : List CK} (ho : o.op = .mapUpdate t m i x) (hu : P.underlying t = some (.map kt e)) (hk : keyKinds P kt = some (agg, ks))
    (hx : TR g xs [ρ m, ρ i, ρ x]) (hd : doOp L lim n (.mapup agg ks) xs = some out) (hH : HR P g L w) (hW : WG g w) : Good P g lim w L n out (execOp ρ o) := by
  match xs, hx with
  | [], hx => have := hx.1; simp at this
  | [_], hx => have := hx.1; simp at this
  | [_, _], hx => have := hx.1; simp at this
  | [m', k, v], hx =>
    have hm := hx.head
    have hkv := hx.tail.head
    have hxv := hx.tail.tail.head
    simp only [doOp] at hd
    split at hd
    · rename_i id
      split at hd
      · rename_i es hL
        split at hd
        · rename_i hc
          obtain ⟨hl, hok⟩ := hc
          have hck := checkKey_run (w := w) hk hkv (keyOK_agg hok) false
          obtain ⟨loc, E, clock, h1, h2, h3, h4, h5⟩ := hH id _ hL
          have hM : ρ m = .map (some loc.b) := by
            revert hm
            intro hm
            generalize hq : ρ m = q at hm
            cases hm with
            | @map _ _ b loc' hi hp =>
              rw [h1] at hi
              cases hi
              rw [hp h2]
          have hset := fun o' => heap_set_m (o' := o') h3
          have fin : ∀ (es' : List (AV × AV)) (E' : Array MapEntry) (clock' : Nat), out = { v := .undef, up := some (id, .map es') } →
              (execOp ρ o).run P w = .ok .skip { w with heap := w.heap.setIfInBounds loc.b (.map E' clock') } → E'.size = es'.length →
              (∀ (i : Nat) (k x : AV) (e : MapEntry), es'[i]? = some (k, x) → E'[i]? = some e → VR g k e.key ∧ VR g x e.val) → Good P g lim w L n out (execOp ρ o) := by
            intro es' E' clock' hout hrun hsz hE'
            subst hout
            refine good_up (V := undef) (nx := .skip) (o := .map E' clock') (loc := loc) (ver := loc.ver) hrun (.inr ⟨rfl, rfl⟩) h1 hl (Nat.le_refl _) (hset _).1 (hset _).2 (by simp) rfl rfl rfl
              (fun g' _ _ => .undef g') (fun g' hle hi' => ⟨loc, E', clock', hi', h2, (hset _).1, hsz, fun i k x e a b => ⟨(hE' i k x e a b).1.mono hle, (hE' i k x e a b).2.mono hle⟩⟩) hH hW
          split at hd
          · rename_i j a hf
            cases hd
            obtain ⟨r', e1, e2⟩ := find_run (w := w) hk hkv (ents := E.toList) (by simpa using h4) (fun i k x e a b => (h5 i k x e a (by simpa using b)).1) hf
            match r', e1, e2 with
            | some (j', y), e1, ⟨q1, _, k', en, q2, q3, q4, q5⟩ =>
              subst q1
              simp only [Nat.sub_zero, Array.getElem?_toList] at q2 q3
              obtain ⟨s1, s2⟩ := keyEq_same hkv (h5 _ _ _ _ q2 q3).1 q5
              have s3 : Instr.sameBits 10000 en.key (ρ i) = true := by
                have := s2 9999
                rw [s1] at this ⊢
                exact this
              refine fin (es.set j (k, v)) (E.modify j fun e => { e with key := ρ i, val := ρ x }) clock rfl ?_ (by simp [h4]) ?_
              · simp [execOp, ho, Instr.mapUpdate, run_underlying hu, hM, getObj_m h3, hck, e1, q3, Instr.keyThatStays, s3, setObj_m _ h3]
              · intro i' k0 x0 e0 a b
                rw [List.getElem?_set] at a
                rw [Array.getElem?_modify] at b
                split at a
                · rename_i hji
                  subst hji
                  split at a
                  · cases a
                    have b2 : e0.key = ρ i ∧ e0.val = ρ x := by
                      cases hq : E[j]? with
                      | none => simp [hq] at b
                      | some e1 => simp [hq] at b; subst b; exact ⟨rfl, rfl⟩
                    rw [b2.1, b2.2]
                    exact ⟨hkv, hxv⟩
                  · cases a
                · rename_i hji
                  rw [if_neg hji] at b
                  exact h5 _ _ _ _ a b
          · rename_i hf
            cases hd
            obtain ⟨r', e1, e2⟩ := find_run (w := w) hk hkv (ents := E.toList) (by simpa using h4) (fun i k x e a b => (h5 i k x e a (by simpa using b)).1) hf
            match r', e1, e2 with
            | none, e1, _ =>
              refine fin (es ++ [(k, v)]) (E.push { key := ρ i, val := ρ x, born := clock }) (clock + 1) rfl ?_ (by simp [h4]) ?_
              · simp [execOp, ho, Instr.mapUpdate, run_underlying hu, hM, getObj_m h3, hck, e1, setObj_m _ h3]
              · intro i' k0 x0 e0 a b
                rw [Array.getElem?_push] at b
                split at b
                · rename_i hi
                  cases b
                  rw [hi, h4, List.getElem?_append_right (Nat.le_refl _)] at a
                  simp at a
                  obtain ⟨rfl, rfl⟩ := a
                  exact ⟨hkv, hxv⟩
                · have hlt : i' < es.length := by rw [← h4]; exact (Array.getElem?_eq_some_iff.1 b).1
                  rw [List.getElem?_append_left hlt] at a
                  exact h5 _ _ _ _ a b
          · cases hd
        · cases hd
      · cases hd
    · cases hd
  | _ :: _ :: _ :: _ :: _, hx => have := hx.1; simp at this
end
end Go.Sim
set_option linter.unusedVariables false
set_option linter.unusedSimpArgs false
namespace Go.Sim
section
variable {P : Program} {g : Gh} {lim : Nat} {w : World} {L : Nat → Option AO} {n : Nat}
variable (ρ : Operand → Value) (o : Oper) {k : OpK} {os : List Operand} {xs : List AV} {out : Out}
theorem doOp_callF {f : FuncId} : doOp L lim n (.callF f) xs = none := by simp [doOp]
theorem doOp_callV : doOp L lim n .callV xs = none := by simp [doOp]
theorem doOp_fail : doOp L lim n .fail xs = none := by simp [doOp]
theorem tr_len {ρ : Operand → Value} {os : List Operand} (h : TR g xs (os.map ρ)) : xs.length = os.length := by simpa using h.1
theorem array_two {α : Type} {a : Array α} {x y : α} (h : a.toList = [x, y]) : a = #[x, y] := by cases a; simp_all
theorem array_one {α : Type} {a : Array α} {x : α} (h : a.toList = [x]) : a = #[x] := by cases a; simp_all
def isOneK : OpK → Bool
  | .len _ | .cap | .clear .. => true
  | _ => false
def isTwoK : OpK → Bool
  | .append .. | .copy _ => true
  | _ => false
theorem xs_one {k : OpK} {l : List AV} (h : (doOp L lim n k l).isSome = true) (hk : isOneK k = true) : ∃ a, l = [a] := by
  cases k <;> simp only [isOneK] at hk <;> (try cases hk) <;> (match l with
    | [a] => exact ⟨a, rfl⟩
    | [] => simp [doOp] at h
    | _ :: _ :: _ => simp [doOp] at h)
theorem xs_two {k : OpK} {l : List AV} (h : (doOp L lim n k l).isSome = true) (hk : isTwoK k = true) : ∃ a b, l = [a, b] := by
  cases k <;> simp only [isTwoK] at hk <;> (try cases hk) <;> (match l with
    | [a, b] => exact ⟨a, b, rfl⟩
    | [] => simp [doOp] at h
    | [_] => simp [doOp] at h
    | _ :: _ :: _ :: _ => simp [doOp] at h)
theorem list_one {α : Type} {l : List α} (h : l.length = 1) : ∃ a, l = [a] := by
  match l, h with
  | [a], _ => exact ⟨a, rfl⟩
theorem list_two {α : Type} {l : List α} (h : l.length = 2) : ∃ a b, l = [a, b] := by
  match l, h with
  | [a, b], _ => exact ⟨a, b, rfl⟩
theorem builtin_sound {b : Builtin} {args : Array Operand} {at_ : Array TypeId} {ty : TypeId} (ho : o.op = .call { callee := .builtin b, args := args, argTypes := at_ }) (hk : compBuiltin P b at_.toList ty = some k) (hx : TR g xs (args.toList.map ρ))
    (hd : doOp L lim n k xs = some out) (hH : HR P g L w) (hW : WG g w) (hn : g.ι n = none) (hl : lim ≤ n) : Good P g lim w L n out (execOp ρ o) := by
  have hlen := tr_len hx
  have hds : (doOp L lim n k xs).isSome = true := by rw [hd]; rfl
  have one : isOneK k = true → ∃ x, args = #[x] := fun h => by
    obtain ⟨a, rfl⟩ := xs_one hds h
    obtain ⟨x, hx⟩ := list_one (l := args.toList) (by simpa using hlen.symm)
    exact ⟨x, array_one hx⟩
  have two : isTwoK k = true → ∃ x y, args = #[x, y] := fun h => by
    obtain ⟨a, b, rfl⟩ := xs_two hds h
    obtain ⟨x, y, hx⟩ := list_two (l := args.toList) (by simpa using hlen.symm)
    exact ⟨x, y, array_two hx⟩
  generalize hat : at_.toList = atl at hk
  unfold compBuiltin at hk
  split at hk
  · -- len
    rename_i t
    have hat := array_one hat
    split at hk <;> (try cases hk)
    · rename_i e hu
      obtain ⟨x, rfl⟩ := one rfl
      exact op_len ρ o (by rw [ho, hat]) hu (.inl ⟨rfl, _, rfl⟩) hx hd hH hW
    · rename_i hu
      obtain ⟨x, rfl⟩ := one rfl
      exact op_len ρ o (by rw [ho, hat]) hu (.inr (.inl ⟨rfl, rfl⟩)) hx hd hH hW
    · rename_i hu
      obtain ⟨x, rfl⟩ := one rfl
      exact op_len ρ o (by rw [ho, hat]) hu (.inr (.inr ⟨rfl, _, _, rfl⟩)) hx hd hH hW
  · -- cap
    rename_i t
    have hat := array_one hat
    split at hk <;> (try cases hk)
    rename_i e hu
    obtain ⟨x, rfl⟩ := one rfl
    exact op_cap ρ o (by rw [ho, hat]) hu hx hd hH hW
  · -- append
    rename_i s x
    have hat := array_two hat
    split at hk
    · rename_i e hu
      split at hk
      · rename_i i z hi hz
        obtain ⟨i', zv, hi', hzv, hzl, hg, hlen', hne⟩ := zeroOf_spec hz
        rw [hi] at hi'
        cases hi'
        split at hk
        · rename_i hb
          have hap : ∀ zeros, k = .append e i.size i.bytes z zeros → (zeros = true → P.underlying x = some (.int .i64)) → (zeros = false → (∃ e', P.underlying x = some (.slice e')) ∨ P.underlying x = some .string) →
              Good P g lim w L n out (execOp ρ o) := by
            intro zeros hkk h1 h2
            subst hkk
            obtain ⟨xo, yo, rfl⟩ := two rfl
            match xs, hx with
            | [a, b], hx =>
              simp only [doOp] at hd
              split at hd
              · rename_i new hnew
                split at hd
                · rename_i o' happ
                  have hroom : o' = out ∧ ∀ z id ver off len cap, out.v = .sl z id ver off len cap → len ≤ maxRoom := by
                    split at hd
                    · rename_i z' id ver off len cap hv
                      split at hd
                      · rename_i hc
                        cases hd
                        exact ⟨rfl, fun z id ver off len cap h => by rw [hv] at h; cases h; exact hc.1⟩
                      · cases hd
                    · rename_i hv
                      cases hd
                      exact ⟨rfl, fun z id ver off len cap h => absurd h (hv _ _ _ _ _ _)⟩
                  obtain ⟨rfl, hroom⟩ := hroom
                  have hzs : zv.cells.size = i.size := by rw [← hlen', ← hzl]; simp
                  have hsrc : ∃ news, AppSrc P w x i zv (ρ yo) zeros new.length news ∧ FlatR g i.size new news := by
                    cases zeros with
                    | true =>
                      simp only [appRows, if_true] at hnew
                      split at hnew
                      · rename_i m hm
                        split at hnew
                        · rename_i hc
                          cases hnew
                          have hy := hx.tail.head
                          obtain ⟨q, rfl⟩ : ∃ q, b = .v (.int q m) := by
                            unfold intOf at hm
                            split at hm
                            · cases hm; exact ⟨_, rfl⟩
                            · cases hm
                          have hV := hy.ground
                          have := src_of_zeros (P := P) (w := w) (g := g) (i := i) (h1 rfl) (by rw [hzl]; exact hg) hzs (k := q) (m := m.toNat) (by have := hc.2; simp only [maxRoom] at this ⊢; omega)
                          rw [hzl] at this
                          have hm2 : (m.toNat : Int) = m := Int.toNat_of_nonneg hc.1
                          rw [hm2] at this
                          rw [hV]
                          simpa using this
                        · cases hnew
                      · cases hnew
                    | false =>
                      simp only [appRows, Bool.false_eq_true, if_false] at hnew
                      exact src_of_rows (h2 rfl) hH hW (by omega) hx.tail.head hnew
                  obtain ⟨news, s1, s2⟩ := hsrc
                  exact op_append (ty' := ty) ρ o (by rw [ho, hat]) hu hi hzv hzs (by omega) hb hx.head s1 s2 happ hroom hH hW hn hl
                · cases hd
              · cases hd
            | [], hx => have := hx.1; simp at this
            | [_], hx => have := hx.1; simp at this
            | _ :: _ :: _ :: _, hx => have := hx.1; simp at this
          split at hk
          · rename_i hx2
            cases hk
            exact hap true rfl (fun _ => hx2) (fun h => by cases h)
          · rename_i e' hx2
            cases hk
            exact hap false rfl (fun h => by cases h) (fun _ => .inl ⟨_, hx2⟩)
          · rename_i hx2
            cases hk
            exact hap false rfl (fun h => by cases h) (fun _ => .inr hx2)
          · cases hk
        · cases hk
      · cases hk
    · cases hk
  · -- copy
    rename_i d s
    have hat := array_two hat
    split at hk
    · rename_i e hu
      split at hk
      · rename_i i hi
        split at hk
        · rename_i hc
          cases hk
          obtain ⟨x, y, rfl⟩ := two rfl
          refine op_copy ρ o (by rw [ho, hat]) hu hi hc.1 ?_ hx hd hH hW
          have := hc.2
          unfold isSeqB at this
          split at this
          · rename_i e' h; exact .inl ⟨_, h⟩
          · rename_i h; exact .inr h
          · cases this
        · cases hk
      · cases hk
    · cases hk
  · -- clear
    rename_i t
    have hat := array_one hat
    split at hk
    · rename_i e hu
      split at hk
      · rename_i z hz
        cases hk
        obtain ⟨x, rfl⟩ := one rfl
        exact op_clear ρ o (by rw [ho, hat]) hu hz hx hd hH hW
      · cases hk
    · cases hk
  · cases hk
    exact op_mn ρ o ho hx hd hH hW
  · cases hk
    exact op_mx ρ o ho hx hd hH hW
  · cases hk
theorem isAggB_of {t : TypeId} {d : TypeDesc} (hu : P.underlying t = some d) (hd : (match d with | .struct _ | .array _ _ => true | _ => false) = true) : isAggB P t = true := by
  unfold isAggB
  rw [hu]
  cases d <;> simp_all
theorem doOp_sound (ho : compOp P o.op o.type = some (k, os)) (hx : TR g xs (os.map ρ)) (hd : doOp L lim n k xs = some out) (hH : HR P g L w) (hW : WG g w) (hn : g.ι n = none) (hl : lim ≤ n) :
    Good P g lim w L n out (execOp ρ o) := by
  generalize hop : o.op = op at ho
  unfold compOp at ho
  split at ho
  · cases ho; exact op_mov ρ o (.inl hop) hx hd hH hW
  · cases ho; exact op_mov ρ o (.inr hop) hx hd hH hW
  · cases ho; exact op_nilc ρ o hop hx hd hH hW
  · cases ho; exact op_pick ρ o hop hx hd hH hW
  · split at ho
    · rename_i i hi
      cases ho; exact op_box ρ o hop hi hx hd hH hW hn hl
    · cases ho
  · simp only [Option.map_eq_some_iff, Prod.mk.injEq] at ho
    obtain ⟨z, hz, rfl, rfl⟩ := ho
    exact op_alloc ρ o hop hz hx hd hH hW hn hl
  · -- build
    rename_i t parts
    split at ho
    · rename_i i hi
      split at ho
      · rename_i z hz
        split at ho
        · rename_i hc
          simp only [Bool.and_eq_true] at hc
          obtain ⟨hg, hm⟩ := hc
          split at ho
          · rename_i ps hps
            cases ho
            unfold partsB at hm
            refine op_build ρ o hop hi hz hg ?_ hps hx hd ?_ ?_ ?_ hH hW
            · intro fs hu; rw [hu] at hm; exact hm
            · intro m e hu; rw [hu] at hm; exact hm
            · intro hu; rw [hu] at hm; cases hm
            · unfold isAggB
              split at hm
              · rfl
              · rfl
              · cases hm
          · cases ho
        · cases ho
      · cases ho
    · cases ho
  · -- buildSlice
    split at ho
    · rename_i e hu
      split at ho
      · rename_i z hz
        split at ho
        · rename_i hc
          cases ho
          exact op_buildSl ρ o hop hu hz hc hx hd hH hW hn hl
        · cases ho
      · cases ho
    · cases ho
  · -- load
    split at ho
    · rename_i d i hu hi
      simp only [Option.some.injEq, Prod.mk.injEq] at ho
      obtain ⟨rfl, rfl⟩ := ho
      split at hd
      · rename_i ha
        exact op_loadA ρ o hop (by rw [hu]; simp) ha hi hx hd hH hW
      · rename_i ha
        exact op_loadS ρ o hop (by rw [hu]; simp) (by simpa using ha) hx hd hH hW
    · cases ho
  · split at ho
    · rename_i i hi
      cases ho
      exact op_store ρ o hop hi hx hd hH hW
    · cases ho
  · -- fieldAddr
    split at ho
    · rename_i fs hu
      split at ho
      · rename_i fd hf
        split at ho
        · rename_i i hi
          split at ho
          · rename_i h0
            cases ho
            exact op_fad ρ o hop hu hf hi h0 hx hd hH hW
          · cases ho
        · cases ho
      · cases ho
    · cases ho
  · -- indexAddr
    split at ho
    · rename_i e hu
      split at ho
      · rename_i ei hi
        split at ho
        · rename_i h0
          cases ho
          exact op_iad ρ o hop hu hi h0 hx hd hH hW
        · cases ho
      · cases ho
    · rename_i m e hu
      split at ho
      · rename_i ei hi
        cases ho
        exact op_iadA ρ o hop hu hi hx hd hH hW
      · cases ho
    · cases ho
  · -- field
    split at ho
    · rename_i fs hu
      split at ho
      · rename_i fd hf
        split at ho
        · rename_i d i hu2 hi
          simp only [Option.some.injEq, Prod.mk.injEq] at ho
          obtain ⟨rfl, rfl⟩ := ho
          split at hd
          · rename_i ha
            exact op_fldA ρ o hop hu hf (by rw [hu2]; simp) ha hi hx hd hH hW
          · rename_i ha
            exact op_fldS ρ o hop hu hf (by rw [hu2]; simp) (by simpa using ha) hx hd hH hW
        · cases ho
      · cases ho
    · cases ho
  · -- index
    split at ho
    · rename_i hu
      cases ho
      exact op_idxStr ρ o hop hu hx hd hH hW
    · rename_i m e hu
      split at ho
      · rename_i d ei hu2 hi
        cases ho
        exact op_idxA ρ o hop hu (by rw [hu2]; simp) hi hx hd hH hW
      · cases ho
    · cases ho
  · -- binOp
    split at ho
    · cases ho; exact op_bin ρ o hop hx hd hH hW
    · cases ho; exact op_bin ρ o hop hx hd hH hW
    · rename_i hu
      split at ho
      · cases ho; exact op_eqB (neg := false) ρ o hop rfl hu hx hd hH hW
      · cases ho; exact op_eqB (neg := true) ρ o hop rfl hu hx hd hH hW
      · cases ho
    · rename_i fs hu
      split at ho
      · rename_i ks hks
        split at ho
        · cases ho
        · rename_i hg
          have ha := isAggB_of hu (by rfl)
          split at ho
          · cases ho; exact op_eqA (neg := false) ρ o hop rfl hks ha (by simpa using hg) hx hd hH hW
          · cases ho; exact op_eqA (neg := true) ρ o hop rfl hks ha (by simpa using hg) hx hd hH hW
          · cases ho
      · cases ho
    · rename_i m e hu
      split at ho
      · rename_i ks hks
        split at ho
        · cases ho
        · rename_i hg
          have ha := isAggB_of hu (by rfl)
          split at ho
          · cases ho; exact op_eqA (neg := false) ρ o hop rfl hks ha (by simpa using hg) hx hd hH hW
          · cases ho; exact op_eqA (neg := true) ρ o hop rfl hks ha (by simpa using hg) hx hd hH hW
          · cases ho
      · cases ho
    · rename_i d _ _ _ _ _ hu
      split at ho
      · rename_i kd hkd
        have hk : kdType kd d = true := by
          split at hkd <;> cases hkd <;> rfl
        split at ho
        · cases ho; exact op_eqNil (neg := false) ρ o hop rfl hu hk hx hd hH hW
        · cases ho; exact op_eqNil (neg := true) ρ o hop rfl hu hk hx hd hH hW
        · cases ho
      · cases ho
    · cases ho
  · cases ho; exact op_un ρ o hop hx hd hH hW
  · -- convert
    split at ho
    · rename_i h1 h2
      cases ho; exact op_convI ρ o hop h1 h2 hx hd hH hW
    · rename_i h1 h2
      cases ho; exact op_convS ρ o hop h1 h2 hx hd hH hW
    · rename_i e h1 h2
      split at ho
      · rename_i h3
        split at ho
        · cases ho; exact op_s2b ρ o hop h1 h2 h3 hx hd hH hW
        · cases ho
      · cases ho
    · cases ho
  · -- makeFunc
    split at ho
    · cases ho
      exact op_mkfn ρ o hop hx hd hH hW
    · cases ho
  · split at ho
    · cases ho; exact op_mkmap ρ o hop hx hd hH hW hn hl
    · cases ho
  · -- makeSlice
    split at ho
    · rename_i e hu
      split at ho
      · rename_i i z hi hz
        split at ho
        · rename_i hb
          cases ho; exact op_mksl ρ o hop hu hi hz hb hx hd hH hW hn hl
        · cases ho
      · cases ho
    · cases ho
  · -- slice
    split at ho
    · rename_i hu
      split at ho
      · rename_i hm
        cases ho
        refine op_slcStr ρ o (by rw [hop]; simp only [Option.isNone_iff_eq_none] at hm; rw [hm]) hu hx hd hH hW
      · cases ho
    · rename_i e hu
      split at ho
      · rename_i i hi
        split at ho
        · rename_i hc
          cases ho
          exact op_slc ρ o hop hu hi hc.1 hc.2 hx hd hH hW
        · cases ho
      · cases ho
    · cases ho
  · -- lookup
    split at ho
    · rename_i kt e hu
      split at ho
      · rename_i z agg ks hz hks
        cases ho
        exact op_lookup ρ o hop hu hz hks hx hd hH hW
      · cases ho
    · cases ho
  · split at ho
    · rename_i kt e hu
      split at ho
      · rename_i agg ks hks
        cases ho
        exact op_mapup ρ o hop hu hks hx hd hH hW
      · cases ho
    · cases ho
  · cases ho; exact op_ext ρ o hop hx hd hH hW
  · -- call
    rename_i c
    obtain ⟨callee, args, at_⟩ := c
    split at ho
    · cases ho; rw [doOp_callF] at hd; cases hd
    · cases ho; rw [doOp_callV] at hd; cases hd
    · rename_i b hcal
      simp only [Option.map_eq_some_iff, Prod.mk.injEq] at ho
      obtain ⟨k', hk', rfl, rfl⟩ := ho
      have hcal : callee = .builtin b := hcal
      subst hcal
      exact builtin_sound ρ o hop hk' hx hd hH hW hn hl
    · cases ho
  · cases ho
end
end Go.Sim
set_option linter.unusedVariables false
set_option linter.unusedSimpArgs false
namespace Go.Sim
def Wf : List Ent → Nat → Prop
  | [], _ => True
  | .mark :: r, n => Wf r n
  | .ob i _ :: r, n => i < n ∧ Wf r i
theorem Wf.mono : ∀ {h : List Ent} {n m : Nat}, Wf h n → n ≤ m → Wf h m
  | [], _, _, _, _ => trivial
  | .mark :: r, _, _, h, hm => Wf.mono (h := r) h hm
  | .ob i _ :: r, _, _, h, hm => ⟨Nat.lt_of_lt_of_le h.1 hm, h.2⟩
theorem Wf.lt : ∀ {h : List Ent} {n id : Nat} {o : AO}, Wf h n → look h id = some o → id < n
  | [], _, _, _, _, hl => by cases hl
  | .mark :: r, _, _, _, h, hl => Wf.lt (h := r) h hl
  | .ob i o :: r, n, id, o', h, hl => by
    simp only [look] at hl
    split at hl
    · rename_i e; subst e; exact h.1
    · exact Nat.lt_trans (Wf.lt (h := r) h.2 hl) h.1
theorem look_mark (r : List Ent) : look (.mark :: r) = look r := rfl
theorem look_upd : ∀ (h : List Ent) (id : Nat) (o : AO) (j : Nat), look (upd h id o) j = if j = id ∧ (look h id).isSome then some o else look h j
  | [], id, o, j => by simp [look, upd]
  | .mark :: r, id, o, j => look_upd r id o j
  | .ob i o' :: r, id, o, j => by
    by_cases h1 : i = id
    · subst h1
      simp only [upd, if_true, look]
      by_cases h2 : i = j
      · subst h2; simp
      · have h3 : ¬ j = i := fun e => h2 e.symm
        simp [h2, h3]
    · simp only [upd, if_neg h1, look]
      by_cases h2 : i = j
      · subst h2; simp [h1]
      · simp only [if_neg h2]
        exact look_upd r id o j
theorem Wf.upd : ∀ {h : List Ent} {n : Nat} (id : Nat) (o : AO), Wf h n → Wf (Sim.upd h id o) n
  | [], _, _, _, _ => trivial
  | .mark :: r, _, id, o, h => Wf.upd (h := r) id o h
  | .ob i o' :: r, n, id, o, h => by
    by_cases h1 : i = id
    · subst h1
      simp only [Sim.upd, if_true]
      exact ⟨h.1, h.2⟩
    · simp only [Sim.upd, if_neg h1]
      exact ⟨h.1, Wf.upd (h := r) id o h.2⟩
theorem Wf.pop : ∀ {h : List Ent} {n : Nat}, Wf h n → Wf (popMark h) n
  | [], _, _ => trivial
  | .mark :: r, _, h => h
  | .ob i o :: r, n, h => by
    have hr := Wf.pop (h := r) h.2
    cases o with
    | arr bx ty esz ver els =>
      cases bx
      · exact ⟨h.1, hr⟩
      · exact hr.mono (Nat.le_of_lt h.1)
    | map es => exact ⟨h.1, hr⟩
    | loop => exact ⟨h.1, hr⟩
theorem look_pop : ∀ {h : List Ent} {n id : Nat} {o : AO}, Wf h n → look (popMark h) id = some o → look h id = some o
  | [], _, _, _, _, hl => hl
  | .mark :: r, _, _, _, _, hl => hl
  | .ob i o' :: r, n, id, o, h, hl => by
    have ih := fun hl => look_pop (h := r) (id := id) (o := o) h.2 hl
    have drop : look (popMark r) id = some o → look (.ob i o' :: r) id = some o := fun hl => by
      have h1 := ih hl
      have h2 := Wf.lt h.2 h1
      simp only [look]
      rw [if_neg (by omega)]
      exact h1
    have keep : look (.ob i o' :: popMark r) id = some o → look (.ob i o' :: r) id = some o := fun hl => by
      simp only [look] at hl ⊢
      split at hl
      · rename_i e; rw [if_pos e]; exact hl
      · rename_i e; rw [if_neg e]; exact ih hl
    cases o' with
    | arr bx ty esz ver els =>
      cases bx
      · exact keep hl
      · exact drop hl
    | map es => exact keep hl
    | loop => exact keep hl
theorem Wf.rm : ∀ {h : List Ent} {n : Nat} (id : Nat), Wf h n → Wf (hide.rm id h) n
  | [], _, _, _ => trivial
  | .mark :: r, _, id, h => Wf.rm (h := r) id h
  | .ob i o :: r, n, id, h => by
    simp only [hide.rm]
    split
    · exact h.2.mono (Nat.le_of_lt h.1)
    · exact ⟨h.1, Wf.rm (h := r) id h.2⟩
theorem look_rm : ∀ {h : List Ent} {n id j : Nat} {o : AO}, Wf h n → look (hide.rm id h) j = some o → look h j = some o ∧ j ≠ id
  | [], _, _, _, _, _, hl => by cases hl
  | .mark :: r, _, _, _, _, h, hl => look_rm (h := r) h hl
  | .ob i o' :: r, n, id, j, o, h, hl => by
    simp only [hide.rm] at hl
    split at hl
    · rename_i e
      subst e
      have h2 := Wf.lt h.2 hl
      simp only [look]
      rw [if_neg (by omega)]
      exact ⟨hl, by omega⟩
    · rename_i e
      simp only [look] at hl ⊢
      split at hl
      · rename_i e2; subst e2; rw [if_pos rfl]; exact ⟨hl, e⟩
      · rename_i e2; rw [if_neg e2]; exact look_rm (h := r) h.2 hl
theorem Wf.hide : ∀ (ids : List Nat) {h : List Ent} {n : Nat}, Wf h n → Wf (Sim.hide ids h) n
  | [], _, _, h => h
  | id :: ids, _, _, h => Wf.hide ids (h.rm id)
theorem look_hide : ∀ (ids : List Nat) {h : List Ent} {n j : Nat} {o : AO}, Wf h n → look (hide ids h) j = some o → look h j = some o ∧ j ∉ ids
  | [], _, _, _, _, _, hl => ⟨hl, by simp⟩
  | id :: ids, h, n, j, o, hw, hl => by
    obtain ⟨h1, h2⟩ := look_hide ids (hw.rm id) hl
    obtain ⟨h3, h4⟩ := look_rm hw h1
    exact ⟨h3, by simp [h4, h2]⟩
end Go.Sim
set_option linter.unusedVariables false
set_option linter.unusedSimpArgs false
namespace Go.Sim
theorem mapO_spec {α β : Type} {f : α → Option β} : ∀ {l : List α} {r : List β}, mapO f l = some r → r.length = l.length ∧ ∀ (i : Nat) (y : β), r[i]? = some y → ∃ x, l[i]? = some x ∧ f x = some y
  | [], r, h => by
    simp only [mapO, Option.some.injEq] at h
    subst h
    exact ⟨rfl, fun i y h => by simp at h⟩
  | a :: l, r, h => by
    simp only [mapO] at h
    split at h
    · rename_i b bs hb hbs
      cases h
      obtain ⟨h1, h2⟩ := mapO_spec hbs
      refine ⟨by simp [h1], fun i y hi => ?_⟩
      cases i with
      | zero => simp at hi; subst hi; exact ⟨a, rfl, hb⟩
      | succ i => simp at hi; obtain ⟨x, k1, k2⟩ := h2 i y hi; exact ⟨x, by simpa using k1, k2⟩
    · cases h
open Classical in
noncomputable def frz (g' : Gh) (w' : World) (n0 : Nat) (ι0 : Nat → Option Loc) : Gh :=
  { G := fun b => if ∃ id loc, n0 ≤ id ∧ g'.ι id = some loc ∧ loc.b = b then w'.heap[b]? else g'.G b, ι := ι0 }
section
variable {P : Program} {g' : Gh} {w' : World} {n0 : Nat} {ι0 : Nat → Option Loc} {L : Nat → Option AO}
theorem frz_own (id : Nat) (loc : Loc) (h0 : n0 ≤ id) (hi : g'.ι id = some loc) : (frz g' w' n0 ι0).G loc.b = w'.heap[loc.b]? := by
  simp only [frz]
  rw [if_pos ⟨id, loc, h0, hi, rfl⟩]
theorem frz_G (hW : WG g' w') (b : Nat) (o : Obj) (h : g'.G b = some o) : (frz g' w' n0 ι0).G b = some o := by
  simp only [frz]
  split
  · rename_i he
    obtain ⟨id, loc, _, h2, h3⟩ := he
    have := hW.out id loc h2
    rw [h3, h] at this
    cases this
  · exact h
theorem frz_still_le (hW : WG g' w') : g'.still.le (frz g' w' n0 ι0).still := ⟨fun b o h => frz_G hW b o h, fun id loc h => by simp [Gh.still] at h⟩
theorem VR.ip_still {g : Gh} {cs : List AV} {X : Value} (h : VR g (.ip cs) X) : VR g.still (.ip cs) X := by
  cases h with
  | ip hs hc hv => exact .ip hs hc hv
theorem VR.is_still {g : Gh} {e : Nat} {els : List (List AV)} {X : Value} (h : VR g (.is e els) X) : VR g.still (.is e els) X := by
  cases h with
  | is hs hl hr hc hv => exact .is hs hl hr hc hv
  | is0 => exact .is0
theorem fzI_ok (hH : HR P g' L w') (hW : WG g' w') : ∀ (d : Nat) (x y : AV) (X : Value), VR g' x X → fzI L n0 d x = some y → VR (frz g' w' n0 ι0).still y X
  | 0, _, _, _, _, h => by simp [fzI] at h
  | d + 1, x, y, X, hx, h => by
    have ih := fzI_ok hH hW d
    simp only [fzI] at h
    split at h
    · cases h
      cases hx with
      | v h => exact .v h
    · cases h
      exact hx.ip_still.mono (frz_still_le hW)
    · cases h
      exact hx.is_still.mono (frz_still_le hW)
    · cases h
      cases hx with
      | es => exact .es
    · rename_i esz id ver off len cap
      split at h
      · rename_i bx ty e ver' els hL
        split at h
        · rename_i hc
          obtain ⟨c1, rfl, c3⟩ := hc
          simp only [Option.map_eq_some_iff] at h
          obtain ⟨rows, hrows, rfl⟩ := h
          obtain ⟨hlen, hget⟩ := mapO_spec hrows
          obtain ⟨loc, cs, h1, h2, h3, h4, h5, h6, h7, h8, h9⟩ := hH id _ hL
          have hrl : rows.length = len := by rw [hlen]; simp; omega
          cases hx with
          | @sl _ _ _ _ _ _ _ loc' p c hi hver hlc hs hp =>
            rw [h1] at hi
            cases hi
            obtain ⟨q1, q2, q3, q4, q5⟩ := hp h3
            have hG : (frz g' w' n0 ι0).still.G loc.b = some (.cells cs ty (0, 0)) := (frz_own id loc c1 h1).trans h5
            -- a row, and where it came from
            have hrow : ∀ (i : Nat) (row : List AV), rows[i]? = some row → ∃ row0, els[off + i]? = some row0 ∧ row.length = row0.length ∧ ∀ (j : Nat) (x : AV), row[j]? = some x → ∃ x0, row0[j]? = some x0 ∧ fzI L n0 d x0 = some x := by
              intro i row hr
              obtain ⟨row0, r1, r2⟩ := hget i row hr
              obtain ⟨r3, r4⟩ := mapO_spec r2
              refine ⟨row0, ?_, r3, r4⟩
              rw [List.getElem?_take] at r1
              split at r1
              · rwa [List.getElem?_drop] at r1
              · cases r1
            have hcell : ∀ (i : Nat) (row : List AV) (j : Nat) (x : AV), rows[i]? = some row → row[j]? = some x → ∃ y x0, (frz g' w' n0 ι0).still.cell p (i * e + j) = some y ∧ isCell y = true ∧ VR g' x0 y ∧ fzI L n0 d x0 = some x := by
              intro i row j x hr hx
              obtain ⟨row0, r1, r2, r3⟩ := hrow i row hr
              obtain ⟨x0, r4, r5⟩ := r3 j x hx
              obtain ⟨y, k1, k2, k3⟩ := h9 (off + i) row0 j x0 r1 r4
              have hil : i < len := by rw [← hrl]; exact (List.getElem?_eq_some_iff.1 hr).1
              have hpe : p = ⟨loc.b, off * loc.esz, none⟩ := q2.resolve_left (by omega)
              refine ⟨y, x0, ?_, k2, k3, r5⟩
              subst hpe
              simp only [Gh.cell, hG, h2]
              rw [← k1]
              congr 1
              rw [Nat.add_mul]
              omega
            rw [← hrl]
            refine .is hs (by omega) (fun i row hr => ?_) (fun i row j x hr hx => ?_) (fun i row j x y hr hx hy => ?_)
            · obtain ⟨row0, r1, r2, _⟩ := hrow i row hr
              rw [r2]
              exact h8 _ _ r1
            · obtain ⟨y, x0, e1, e2, _, _⟩ := hcell i row j x hr hx
              exact ⟨y, e1, e2⟩
            · obtain ⟨y', x0, e1, e2, e3, e4⟩ := hcell i row j x hr hx
              rw [hy] at e1
              cases e1
              exact ih x0 x y e3 e4
        · cases h
      · cases h
    · rename_i id ver e o
      split at h
      · rename_i bx ty esz ver' els hL
        split at h
        · rename_i hc
          obtain ⟨c1, rfl⟩ := hc
          split at h
          · rename_i row hrow
            simp only [Option.map_eq_some_iff] at h
            obtain ⟨cells, hcells, rfl⟩ := h
            obtain ⟨hlen, hget⟩ := mapO_spec hcells
            obtain ⟨loc, cs, h1, h2, h3, h4, h5, h6, h7, h8, h9⟩ := hH id _ hL
            cases hx with
            | @ptr _ _ _ _ _ loc' p hi hver hp =>
              rw [h1] at hi
              cases hi
              have hpe := hp h3
              subst hpe
              have hG : (frz g' w' n0 ι0).still.G loc.b = some (.cells cs ty (0, 0)) := (frz_own id loc c1 h1).trans h5
              have hcell : ∀ (j : Nat) (x : AV), cells[j]? = some x → ∃ y x0, (frz g' w' n0 ι0).still.cell ⟨loc.b, e * loc.esz + o, none⟩ j = some y ∧ isCell y = true ∧ VR g' x0 y ∧ fzI L n0 d x0 = some x := by
                intro j x hx
                obtain ⟨x0, r1, r2⟩ := hget j x hx
                rw [List.getElem?_drop] at r1
                obtain ⟨y, k1, k2, k3⟩ := h9 e row (o + j) x0 hrow r1
                refine ⟨y, x0, ?_, k2, k3, r2⟩
                simp only [Gh.cell, hG, h2]
                rw [← k1]
                congr 1
                omega
              refine .ip rfl (fun j x hx => ?_) (fun j x y hx hy => ?_)
              · obtain ⟨y, x0, e1, e2, _, _⟩ := hcell j x hx
                exact ⟨y, e1, e2⟩
              · obtain ⟨y', x0, e1, e2, e3, e4⟩ := hcell j x hx
                rw [hy] at e1
                cases e1
                exact ih x0 x y e3 e4
          · cases h
        · cases h
      · cases h
    · cases h
theorem fzM_ok (hH : HR P g' L w') (hW : WG g' w') {x y : AV} {X : Value} (hx : VR g' x X) (h : fzM L n0 x = some y) : VR (frz g' w' n0 ι0).still y X := by
  unfold fzM at h
  split at h
  · simp only [Option.map_eq_some_iff] at h
    obtain ⟨cs, hcs, rfl⟩ := h
    obtain ⟨hlen, hget⟩ := mapO_spec hcs
    cases hx with
    | @agg _ _ Cs hl hc hv =>
      refine .agg (by rw [hlen]; exact hl) hc (fun i x y hx hy => ?_)
      obtain ⟨x0, r1, r2⟩ := hget i x hx
      exact fzI_ok hH hW 6 x0 x y (hv i x0 y r1 hy) r2
  · exact fzI_ok hH hW 6 x y X hx h
theorem frz_le (hW : WG g' w') : ∀ b o, g'.G b = some o → (frz g' w' n0 ι0).G b = some o := frz_G hW
theorem fzC_ok (hH : HR P g' L w') (hW : WG g' w') (hι : ∀ id, id < n0 → g'.ι id = ι0 id) {x y : AV} {X : Value} (hx : VR g' x X) (h : fzC L n0 x = some y) : VR (frz g' w' n0 ι0) y X := by
  have up : ∀ {y : AV} {X : Value}, VR (frz g' w' n0 ι0).still y X → VR (frz g' w' n0 ι0) y X := fun h => h.unstill
  unfold fzC at h
  split at h
  · rename_i esz id ver off len cap
    split at h
    · rename_i hlt
      cases h
      cases hx with
      | sl hi hver hlen hs hp => exact .sl ((hι id hlt).symm.trans hi) hver hlen hs hp
    · exact up (fzI_ok hH hW 6 _ y X hx h)
  · rename_i id ver e o
    split at h
    · rename_i hlt
      cases h
      cases hx with
      | ptr hi hver hp => exact .ptr ((hι id hlt).symm.trans hi) hver hp
    · exact up (fzI_ok hH hW 6 _ y X hx h)
  · rename_i id
    split at h
    · rename_i hlt
      cases h
      cases hx with
      | map hi hp => exact .map ((hι id hlt).symm.trans hi) hp
    · exact up (fzI_ok hH hW 6 _ y X hx h)
  · cases h
    cases hx with
    | fn h1 h2 v1 v2 => exact .fn h1 h2 (fun i x y h => by simp at h) (fun i x y h => by simp at h)
  · exact up (fzI_ok hH hW 6 _ y X hx h)
theorem fz1_ok (hH : HR P g' L w') (hW : WG g' w') (hι : ∀ id, id < n0 → g'.ι id = ι0 id) {x y : AV} {X : Value} (hx : VR g' x X) (h : fz1 L n0 x = some y) : VR (frz g' w' n0 ι0) y X := by
  unfold fz1 at h
  split at h
  · simp only [Option.map_eq_some_iff] at h
    obtain ⟨cs, hcs, rfl⟩ := h
    obtain ⟨hlen, hget⟩ := mapO_spec hcs
    cases hx with
    | @agg _ _ Cs hl hc hv =>
      refine .agg (by rw [hlen]; exact hl) hc (fun i x y hx hy => ?_)
      obtain ⟨x0, r1, r2⟩ := hget i x hx
      exact fzC_ok hH hW hι (hv i x0 y r1 hy) r2
  · exact fzC_ok hH hW hι hx h
theorem fz_ok (hH : HR P g' L w') (hW : WG g' w') (hι : ∀ id, id < n0 → g'.ι id = ι0 id) {x y : AV} {X : Value} (hx : VR g' x X) (h : fz L n0 x = some y) : VR (frz g' w' n0 ι0) y X := by
  unfold fz at h
  split at h
  · simp only [Option.map_eq_some_iff] at h
    obtain ⟨cs, hcs, rfl⟩ := h
    obtain ⟨hlen, hget⟩ := mapO_spec hcs
    cases hx with
    | @tup _ _ Cs hl hv =>
      refine .tup (by rw [hlen]; exact hl) (fun i x y hx hy => ?_)
      obtain ⟨x0, r1, r2⟩ := hget i x hx
      exact fz1_ok hH hW hι (hv i x0 y r1 hy) r2
  · rename_i id
    split at h
    · rename_i hlt
      cases h
      cases hx with
      | map hi hp => exact .map ((hι id hlt).symm.trans hi) hp
    · rename_i hge
      split at h
      · rename_i es hL
        simp only [Option.map_eq_some_iff] at h
        obtain ⟨es', hes, rfl⟩ := h
        obtain ⟨hlen, hget⟩ := mapO_spec hes
        obtain ⟨loc, ents, clock, h1, h2, h3, h4, h5⟩ := hH id _ hL
        have hpair : ∀ (i : Nat) (k x : AV), es'[i]? = some (k, x) → ∃ k0 x0, es[i]? = some (k0, x0) ∧ fzM L n0 k0 = some k ∧ fzM L n0 x0 = some x := by
          intro i k x hi
          obtain ⟨⟨k0, x0⟩, r1, r2⟩ := hget i (k, x) hi
          simp only at r2
          split at r2
          · rename_i a b ha hb
            cases r2
            exact ⟨k0, x0, r1, ha, hb⟩
          · cases r2
        cases hx with
        | @map _ _ b loc' hi hp =>
          rw [h1] at hi
          cases hi
          rw [hp h2]
          refine .im (ents := ents) (clock := clock) ((frz_own id loc (by omega) h1).trans h3) (by rw [hlen]; exact h4) (fun i k x e hi he => ?_) (fun i k x e hi he => ?_)
          · obtain ⟨k0, x0, r1, r2, r3⟩ := hpair i k x hi
            exact fzM_ok hH hW (h5 i k0 x0 e r1 he).1 r2
          · obtain ⟨k0, x0, r1, r2, r3⟩ := hpair i k x hi
            exact fzM_ok hH hW (h5 i k0 x0 e r1 he).2 r3
      · cases h
  · exact fz1_ok hH hW hι hx h
end
end Go.Sim
set_option linter.unusedVariables false
set_option linter.unusedSimpArgs false
namespace Go.Sim
structure Inv (P : Program) (g : Gh) (w : World) (s : Hp) : Prop where
  H : HR P g (look s.h) w
  W : WG g w
  dom : ∀ id, g.ι id ≠ none → id < s.n
  wf : Wf s.h s.n
def FW (r : Option Nat) : Fence := { fn := fun _ => True, depth := none, alive := false, round := r }
theorem callsIn_FW {r : Option Nat} {n : Nat} {P : Program} {f : FuncId} {args : Array Value} {w : World} {R : Ending → World → Prop} (h : CallsIn (FW none) n P f args w R) : CallsIn (FW r) n P f args w R := h
def Marks (base : Nat) (g : Gh) (w : World) : List Deferred → Prop
  | [] => True
  | d :: ds => (∃ r, d.target = .collected r ∧ base ≤ r ∧ w.heap[r]? = some (.deferred (some [])) ∧ (∀ id loc, g.ι id = some loc → loc.b ≠ r) ∧ g.G r = none ∧ ∀ d' ∈ ds, d'.target ≠ .collected r) ∧ Marks base g w ds
theorem Marks.ext {base lim : Nat} {g g' : Gh} {w w' : World} (hE : Ext lim g g' w w') : ∀ {ds : List Deferred}, Marks base g w ds → Marks base g' w' ds
  | [], _ => trivial
  | d :: ds, ⟨⟨r, h1, h2, h3, h4, h5, h6⟩, h7⟩ => by
    have hlt : r < w.heap.size := (Array.getElem?_eq_some_iff.1 h3).1
    refine ⟨⟨r, h1, h2, (hE.keep r hlt (fun id loc _ hi => h4 id loc hi)).trans h3, fun id loc hi => ?_, ?_, h6⟩, Marks.ext hE h7⟩
    · rcases hE.fresh id loc hi with ⟨loc0, k1, k2⟩ | k
      · rw [← k2]; exact h4 id loc0 k1
      · omega
    · cases hG : g'.G r with
      | none => rfl
      | some o =>
        rcases hE.gfresh r o hG with k | k
        · rw [h5] at k; cases k
        · omega
theorem Inv.shut {P : Program} {g : Gh} {w : World} {s : Hp} (hI : Inv P g w s) {r : Nat} {o : Obj} (h4 : ∀ id loc, g.ι id = some loc → loc.b ≠ r) (h5 : g.G r = none) :
    Inv P g { w with heap := w.heap.setIfInBounds r o } s where
  H := fun id ao ha => (hI.H id ao ha).mono (.refl g) rfl (fun loc hl => by simp [Ne.symm (h4 id loc hl)])
  W := ⟨fun b o' h => by
      have : r ≠ b := fun e => by subst e; rw [h5] at h; cases h
      simp [this]
      exact hI.W.still b o' h, fun id loc h => by simpa using hI.W.lt id loc h, hI.W.out, hI.W.inj⟩
  dom := hI.dom
  wf := hI.wf
theorem Marks.shut {base : Nat} {g : Gh} {w : World} {r : Nat} {o : Obj} : ∀ {ds : List Deferred}, Marks base g w ds → (∀ d' ∈ ds, d'.target ≠ .collected r) → Marks base g { w with heap := w.heap.setIfInBounds r o } ds
  | [], _, _ => trivial
  | d :: ds, ⟨⟨r', h1, h2, h3, h4, h5, h6⟩, h7⟩, hd => by
    have hne : r ≠ r' := fun e => hd d (by simp) (by rw [h1, e])
    exact ⟨⟨r', h1, h2, by simpa [hne] using h3, h4, h5, h6⟩, Marks.shut h7 (fun d' hd' => hd d' (by simp [hd']))⟩
theorem ext_shut {lim : Nat} {g g' : Gh} {w w' : World} (hE : Ext lim g g' w w') {r : Nat} {o : Obj} (hr : w.heap.size ≤ r) : Ext lim g g' w { w' with heap := w'.heap.setIfInBounds r o } :=
  ⟨hE.le, by simpa using hE.size, fun b hb hn => by
    have : r ≠ b := by omega
    simp [this]
    exact hE.keep b hb hn, hE.fresh, hE.old, hE.os, hE.tape, hE.output, hE.gfresh⟩
theorem mapM_res {P : Program} {α : Type} {w : World} {f : α → Sem Value} : ∀ (l : List α) (vs : List Value), l.length = vs.length → (∀ (i : Nat) (x : α) (v : Value), l[i]? = some x → vs[i]? = some v → (f x).run P w = .ok v w) → (l.mapM f).run P w = .ok vs w
  | [], [], _, _ => by simp
  | [], _ :: _, h, _ => by simp at h
  | _ :: _, [], h, _ => by simp at h
  | x :: l, v :: vs, h, hx => by
    have h0 := hx 0 x v rfl rfl
    have ih := mapM_res (P := P) (w := w) (f := f) l vs (by simpa using h) (fun i x v a b => hx (i + 1) x v (by simpa using a) (by simpa using b))
    simp [List.mapM_cons, h0, ih]
theorem res_one {P : Program} {g : Gh} {w : World} {L : Nat → Option AO} (hH : HR P g L w) (hW : WG g w) {t : List AV} {tmps : Array Value} (ht : TR g t tmps.toList) {rv : ResultVar} {r : RV} (hc : compRes P rv = some r) {v : AV} (hv : readRes L t r = some v) :
    ∃ V, ((match rv with
      | .tmp t => pure (tmps.getD t undef)
      | .cell a t => do loadVar t (← asAddr (tmps.getD a undef)) : Sem Value)).run P w = .ok V w ∧ VR g v V := by
  have get : ∀ i x, t[i]? = some x → ∃ X, tmps.getD i undef = X ∧ VR g x X := by
    intro i x hx
    have hlt : i < tmps.size := by have := ht.1; have := (List.getElem?_eq_some_iff.1 hx).1; simp at *; omega
    refine ⟨tmps[i], by simp [hlt], ht.2 i x _ hx (by simp [hlt])⟩
  cases rv with
  | tmp i =>
    simp only [compRes, Option.some.injEq] at hc
    subst hc
    obtain ⟨X, h1, h2⟩ := get i v hv
    exact ⟨X, by simp [h1], h2⟩
  | cell a ty =>
    simp only [compRes] at hc
    split at hc
    · rename_i d i hu hi
      simp only [Option.some.injEq] at hc
      subst hc
      by_cases ha : isAggB P ty = true
      · simp only [ha, if_true, readRes] at hv
        split at hv
        · rename_i p hp
          simp only [Option.map_eq_some_iff] at hv
          obtain ⟨out, ho, rfl⟩ := hv
          obtain ⟨X, h1, h2⟩ := get a p hp
          obtain ⟨vs, ad, ys, rfl, hV, hl, hcell, hvr⟩ := load_A h2 ho hH hW
          refine ⟨.agg ys.toArray, ?_, hvr⟩
          simp [h1, hV, asAddr, run_loadVar_A (by rw [hu]; simp) ha hi hl hcell]
        · cases hv
      · simp only [ha, if_false, Bool.false_eq_true, readRes] at hv
        split at hv
        · rename_i p hp
          simp only [Option.map_eq_some_iff] at hv
          obtain ⟨out, ho, rfl⟩ := hv
          obtain ⟨X, h1, h2⟩ := get a p hp
          obtain ⟨v', ad, y, rfl, hV, hcell, hvr⟩ := load_S h2 ho hH hW
          refine ⟨y, ?_, hvr⟩
          simp [h1, hV, asAddr, run_loadVar_S (by rw [hu]; simp) (by simpa using ha) hcell]
        · cases hv
    · cases hc
theorem results_run {P : Program} {g : Gh} {w : World} {L : Nat → Option AO} (hH : HR P g L w) (hW : WG g w) {t : List AV} {tmps : Array Value} (ht : TR g t tmps.toList) {fn : Func} {rs : List RV} (hc : mapO (compRes P) fn.results.toList = some rs) {v : AV} (hv : results L t rs = some v) :
    ∃ V, (Go.results fn tmps).run P w = .ok V w ∧ VR g v V := by
  obtain ⟨hl, hg⟩ := mapO_spec hc
  unfold Sim.results at hv
  -- the parts
  have parts : ∀ (vs : List AV), mapO (readRes L t) rs = some vs → ∃ Vs : List Value, Vs.length = vs.length ∧ (∀ (i : Nat) (v : AV) (V : Value), vs[i]? = some v → Vs[i]? = some V → VR g v V) ∧
      (fn.results.mapM fun
        | .tmp t => pure (tmps.getD t undef)
        | .cell a t => do loadVar t (← asAddr (tmps.getD a undef)) : Sem (Array Value)).run P w = .ok Vs.toArray w := by
    intro vs hvs
    obtain ⟨hl2, hg2⟩ := mapO_spec hvs
    have each : ∀ (i : Nat) (v : AV), vs[i]? = some v → ∃ rv V, fn.results.toList[i]? = some rv ∧ VR g v V ∧ ((match rv with
      | .tmp t => pure (tmps.getD t undef)
      | .cell a t => do loadVar t (← asAddr (tmps.getD a undef)) : Sem Value)).run P w = .ok V w := by
      intro i v hi
      obtain ⟨r, h1, h2⟩ := hg2 i v hi
      obtain ⟨rv, h3, h4⟩ := hg i r h1
      obtain ⟨V, h5, h6⟩ := res_one hH hW ht h4 h2
      exact ⟨rv, V, h3, h6, h5⟩
    -- choose
    have ch : ∃ Vs : List Value, Vs.length = vs.length ∧ ∀ (i : Nat) (v : AV) (V : Value), vs[i]? = some v → Vs[i]? = some V → ∃ rv, fn.results.toList[i]? = some rv ∧ VR g v V ∧ ((match rv with
      | .tmp t => pure (tmps.getD t undef)
      | .cell a t => do loadVar t (← asAddr (tmps.getD a undef)) : Sem Value)).run P w = .ok V w := by
      refine ⟨(List.range vs.length).pmap (fun i (hi : i < vs.length) => Classical.choose (Classical.choose_spec (each i vs[i] (by simp [hi])))) (fun i hi => by simpa using hi), by simp, fun i v V hi hV => ?_⟩
      simp only [List.getElem?_pmap, Option.pmap_eq_some_iff] at hV
      obtain ⟨j, hj, hj2, rfl⟩ := hV
      have hil : i < vs.length := (List.getElem?_eq_some_iff.1 hi).1
      rw [List.getElem?_range hil] at hj2
      cases hj2
      have e : vs[i] = v := by simpa [hil] using hi
      have h := Classical.choose_spec (Classical.choose_spec (each i vs[i] (by simp [hil])))
      refine ⟨_, h.1, ?_, h.2.2⟩
      rw [← e]
      exact h.2.1
    obtain ⟨Vs, c1, c2⟩ := ch
    have hlen : Vs.length = fn.results.toList.length := by rw [c1, hl2, hl]
    refine ⟨Vs, c1, fun i v V hi hV => (c2 i v V hi hV).elim (fun _ h => h.2.1), ?_⟩
    rw [Array.mapM_eq_mapM_toList]
    simp only [Sem.run_bind, map_eq_pure_bind]
    rw [mapM_res (P := P) (w := w) fn.results.toList Vs hlen.symm (fun i x V hx hV => by
      have hi : i < vs.length := by rw [← c1]; exact (List.getElem?_eq_some_iff.1 hV).1
      obtain ⟨rv, k1, _, k3⟩ := c2 i vs[i] V (by simp [hi]) hV
      rw [hx] at k1
      cases k1
      exact k3)]
    simp
  split at hv
  · rename_i v' hvs
    cases hv
    obtain ⟨Vs, h1, h2, h3⟩ := parts _ hvs
    obtain ⟨V, rfl⟩ := list_one (l := Vs) (by simpa using h1)
    refine ⟨V, ?_, h2 0 _ V rfl rfl⟩
    unfold Go.results
    refine (Sem.run_bind ..).trans ((congrArg (fun r => Result.andThen r _) h3).trans ?_)
    rfl
  · rename_i vs hne hvs
    cases hv
    obtain ⟨Vs, h1, h2, h3⟩ := parts _ hvs
    refine ⟨.tuple Vs.toArray, ?_, .tup (by simp [h1]) (fun i x y hx hy => h2 i x y hx (by simpa using hy))⟩
    unfold Go.results
    refine (Sem.run_bind ..).trans ((congrArg (fun r => Result.andThen r _) h3).trans ?_)
    simp only [Result.andThen_ok]
    have : ¬ Vs.toArray.size = 1 := by
      intro e
      have e2 : vs.length = 1 := by rw [← h1]; simpa using e
      match vs, e2 with
      | [v], _ => exact hne v rfl
    rw [dif_neg this]
    rfl
  · cases hv
end Go.Sim
set_option linter.unusedVariables false
set_option linter.unusedSimpArgs false
namespace Go.Sim
section
variable {P : Program} {g' : Gh} {w' : World} {ι0 : Nat → Option Loc} {L : Nat → Option AO}
theorem fzA_ok (hH : HR P g' L w') (hW : WG g' w') : ∀ (d : Nat) (x y : AV) (X : Value), VR g' x X → fzA L d x = some y → VR (frz g' w' 0 ι0).still y X
  | 0, _, _, _, _, h => by simp [fzA] at h
  | d + 1, x, y, X, hx, h => by
    have ih := fzA_ok hH hW d
    have rest : fzI L 0 6 x = some y → VR (frz g' w' 0 ι0).still y X := fun h => fzI_ok hH hW 6 x y X hx h
    simp only [fzA] at h
    split at h
    · split at h
      · rename_i a b ha hb
        cases h
        obtain ⟨l1, e1⟩ := mapO_spec ha
        obtain ⟨l2, e2⟩ := mapO_spec hb
        cases hx with
        | fn h1 h2 v1 v2 =>
          refine .fn (by rw [l1]; exact h1) (by rw [l2]; exact h2) (fun i x y hx hy => ?_) (fun i x y hx hy => ?_)
          · obtain ⟨x0, r1, r2⟩ := e1 i x hx
            exact ih x0 x y (v1 i x0 y r1 hy) r2
          · obtain ⟨x0, r1, r2⟩ := e2 i x hx
            exact ih x0 x y (v2 i x0 y r1 hy) r2
      · cases h
    · simp only [Option.map_eq_some_iff] at h
      obtain ⟨cs, hcs, rfl⟩ := h
      obtain ⟨hlen, hget⟩ := mapO_spec hcs
      cases hx with
      | @agg _ _ Cs hl hc hv =>
        refine .agg (by rw [hlen]; exact hl) hc (fun i x y hx hy => ?_)
        obtain ⟨x0, r1, r2⟩ := hget i x hx
        exact ih x0 x y (hv i x0 y r1 hy) r2
    · cases h
      cases hx with
      | im hb hl hk hv => exact (VR.im (g := g') hb hl hk hv |> fun h => (by cases h with | im hb hl hk hv => exact VR.im hb hl hk hv : VR g'.still _ _)).mono (frz_still_le hW)
    · rename_i id
      split at h
      · rename_i es hL
        simp only [Option.map_eq_some_iff] at h
        obtain ⟨es', hes, rfl⟩ := h
        obtain ⟨hlen, hget⟩ := mapO_spec hes
        obtain ⟨loc, ents, clock, h1, h2, h3, h4, h5⟩ := hH id _ hL
        have hpair : ∀ (i : Nat) (k x : AV), es'[i]? = some (k, x) → ∃ k0 x0, es[i]? = some (k0, x0) ∧ fzM L 0 k0 = some k ∧ fzM L 0 x0 = some x := by
          intro i k x hi
          obtain ⟨⟨k0, x0⟩, r1, r2⟩ := hget i (k, x) hi
          simp only at r2
          split at r2
          · rename_i a b ha hb
            cases r2
            exact ⟨k0, x0, r1, ha, hb⟩
          · cases r2
        cases hx with
        | @map _ _ b loc' hi hp =>
          rw [h1] at hi
          cases hi
          rw [hp h2]
          refine .im (ents := ents) (clock := clock) ((frz_own id loc (Nat.zero_le _) h1).trans h3) (by rw [hlen]; exact h4) (fun i k x e hi he => ?_) (fun i k x e hi he => ?_)
          · obtain ⟨k0, x0, r1, r2, r3⟩ := hpair i k x hi
            exact fzM_ok hH hW (h5 i k0 x0 e r1 he).1 r2
          · obtain ⟨k0, x0, r1, r2, r3⟩ := hpair i k x hi
            exact fzM_ok hH hW (h5 i k0 x0 e r1 he).2 r3
      · cases h
    · rename_i id ver e o
      split at h
      · rename_i bx ty esz ver' els hL
        split at h
        · rename_i hc
          subst hc
          split at h
          · rename_i row hrow
            simp only [Option.map_eq_some_iff] at h
            obtain ⟨cells, hcells, rfl⟩ := h
            obtain ⟨hlen, hget⟩ := mapO_spec hcells
            obtain ⟨loc, cs, h1, h2, h3, h4, h5, h6, h7, h8, h9⟩ := hH id _ hL
            cases hx with
            | @ptr _ _ _ _ _ loc' p hi hver hp =>
              rw [h1] at hi
              cases hi
              have hpe := hp h3
              subst hpe
              have hG : (frz g' w' 0 ι0).still.G loc.b = some (.cells cs ty (0, 0)) := (frz_own id loc (Nat.zero_le _) h1).trans h5
              have hcell : ∀ (j : Nat) (x : AV), cells[j]? = some x → ∃ y x0, (frz g' w' 0 ι0).still.cell ⟨loc.b, e * loc.esz + o, none⟩ j = some y ∧ isCell y = true ∧ VR g' x0 y ∧ fzA L d x0 = some x := by
                intro j x hx
                obtain ⟨x0, r1, r2⟩ := hget j x hx
                rw [List.getElem?_drop] at r1
                obtain ⟨y, k1, k2, k3⟩ := h9 e row (o + j) x0 hrow r1
                refine ⟨y, x0, ?_, k2, k3, r2⟩
                simp only [Gh.cell, hG, h2]
                rw [← k1]
                congr 1
                omega
              refine .ip rfl (fun j x hx => ?_) (fun j x y hx hy => ?_)
              · obtain ⟨y, x0, e1, e2, _, _⟩ := hcell j x hx
                exact ⟨y, e1, e2⟩
              · obtain ⟨y', x0, e1, e2, e3, e4⟩ := hcell j x hx
                rw [hy] at e1
                cases e1
                exact ih x0 x y e3 e4
          · cases h
        · cases h
      · cases h
    · exact rest h
theorem gnd_ok {g g2 : Gh} : ∀ {d : Nat} {x : AV} {X : Value}, gnd d x = true → VR g x X → VR g2 x X
  | 0, _, _, h, _ => by simp [gnd] at h
  | d + 1, x, X, h, hx => by
    cases hx with
    | v hg => exact .v hg
    | agg hl hc hv =>
      simp only [gnd, List.all_eq_true] at h
      exact .agg hl hc (fun i x y hx hy => gnd_ok (h x (List.mem_of_getElem? hx)) (hv i x y hx hy))
    | tup hl hv =>
      simp only [gnd, List.all_eq_true] at h
      exact .tup hl (fun i x y hx hy => gnd_ok (h x (List.mem_of_getElem? hx)) (hv i x y hx hy))
    | _ => simp [gnd] at h
end
end Go.Sim
set_option linter.unusedVariables false
set_option linter.unusedSimpArgs false
namespace Go.Sim
def Ex.toExit : Ex → Exit
  | .normal => .normal
  | .exit id => .exit id
  | .ret => .ret
structure After (P : Program) (base lim : Nat) (g : Gh) (w : World) (s : Hp) (t : List AV) (s' : Hp) (g' : Gh) (a' : Act) (w' : World) : Prop where
  t : TR g' t a'.tmps.toList
  inv : Inv P g' w' s'
  ext : Ext lim g g' w w'
  n : s.n ≤ s'.n
  marks : Marks base g' w' a'.defers
def PostX (P : Program) (base lim : Nat) (g : Gh) (w : World) (s : Hp) (e : Ex) (σ' : St) : Exit → Act → World → Prop :=
  fun e' a' w' => e' = e.toExit ∧ ∃ g', After P base lim g w s σ'.t σ'.s g' a' w'
def ExOK (P : Program) (ex : Nat → Bool → IC → St → Option (Ex × St)) : Prop :=
  ∀ (lim : Nat) (rd : Bool) (c : IC) (σ : St) (e : Ex) (σ' : St), ex lim rd c σ = some (e, σ') → ∀ code : Code, comp P code = some c → ∀ r : Option Nat, rd = r.isSome →
    ∀ (g : Gh) (a : Act) (w : World) (n base : Nat), TR g σ.t a.tmps.toList → Inv P g w σ.s → lim ≤ σ.s.n → base ≤ w.heap.size → Marks base g w a.defers →
      code.wpIn (FW r) n P (PostX P base lim g w σ.s e σ') a w
def TabOK (P : Program) (T : Tab) : Prop := ∀ f ifn, T f = some ifn → ∃ fn, P.funcs[f]? = some fn ∧ compFn P fn ifn.pure ifn.frz = some ifn
section
variable {P : Program} {T : Tab} {ex : Nat → Bool → IC → St → Option (Ex × St)} {lim n : Nat} {g : Gh} {w : World}
theorem takeDeferred_run {r : Nat} (h : w.heap[r]? = some (.deferred (some []))) : (Instr.takeDeferred r).run P w = .ok [] { w with heap := w.heap.setIfInBounds r (.deferred none) } := by
  simp [Instr.takeDeferred, getObj, setObj, Sem.run, h]
theorem leaves_ok {fn : Func} {tmps : Array Value} {t : List AV} {rs : List RV} {v : AV} {s : Hp} {g0 : Gh} {w0 : World} {g' : Gh} {F : Fence} {R : Ending → World → Prop} (ht : TR g' t tmps.toList)
    (hc : mapO (compRes P) fn.results.toList = some rs) (hv : results (look s.h) t rs = some v)
    (hR : ∀ V w', VR g' v V → Inv P g' w' s → Ext lim g0 g' w0 w' → R (.returned V) w') :
    ∀ (ds : List Deferred) (w' : World), Marks w0.heap.size g' w' ds → Inv P g' w' s → Ext lim g0 g' w0 w' → LeavesInM F n P fn tmps R ds .returning w'
  | [], w', hm, hI, hE => by
    obtain ⟨V, h1, h2⟩ := results_run hI.H hI.W ht hc hv
    exact ⟨V, h1, hR V w' h2 hI hE⟩
  | d :: ds, w', ⟨⟨r, h1, h2, h3, h4, h5, h6⟩, h7⟩, hI, hE => by
    refine ⟨by simp, .inl ⟨r, _, h1, takeDeferred_run h3, ?_⟩⟩
    exact leaves_ok ht hc hv hR ds _ (h7.shut h6) (hI.shut h4 h5) (ext_shut hE h2)
theorem tr_undefs (g : Gh) (m : Nat) : TR g (List.replicate m .undef) (List.replicate m undef) := by
  refine ⟨by simp, fun i x y hx hy => ?_⟩
  simp only [List.getElem?_replicate] at hx hy
  split at hx
  · cases hx
    rename_i hi
    rw [if_pos hi] at hy
    cases hy
    exact .undef g
  · cases hx
theorem TR.app {t t' : List AV} {v v' : List Value} (h : TR g t v) (h' : TR g t' v') : TR g (t ++ t') (v ++ v') := by
  refine ⟨by simp [h.1, h'.1], fun i x y hx hy => ?_⟩
  rw [List.getElem?_append] at hx hy
  rw [← h.1] at hy
  split at hx
  · rename_i hi
    rw [if_pos hi] at hy
    exact h.2 i x y hx hy
  · rename_i hi
    rw [if_neg hi] at hy
    exact h'.2 _ x y hx hy
def Gives (P : Program) (lim : Nat) (g : Gh) (w : World) (s : Hp) (v : AV) (s' : Hp) : Ending → World → Prop :=
  fun e w' => ∃ V g', e = .returned V ∧ VR g' v V ∧ Inv P g' w' s' ∧ Ext lim g g' w w' ∧ s.n ≤ s'.n
theorem body_ok (hex : ExOK P ex) {f : FuncId} {fn : Func} {ifn : IFn} {pure frz : Bool} (hf : P.funcs[f]? = some fn) (hc : compFn P fn pure frz = some ifn) {args : List AV} {Args : Array Value} {s s' : Hp} {v : AV}
    (h : body ex lim ifn args s = some (v, s')) (ht : TR g args Args.toList) (hI : Inv P g w s) (hl : lim ≤ s.n) : CallsIn (FW none) n P f Args w (Gives P lim g w s v s') := by
  unfold compFn at hc
  split at hc
  · cases hc
  · rename_i c hb
    split at hc
    · rename_i ic rs hic hrs
      split at hc
      · rename_i hname
        cases hc
        unfold body at h
        simp only at h
        have key : ∀ (e : Ex) (σ : St), ex lim false ic { t := args ++ List.replicate (fn.ntmps - args.length) .undef, s := s } = some (e, σ) → (∀ id, e ≠ .exit id) → (results (look σ.s.h) σ.t rs).map (fun v => (v, σ.s)) = some (v, s') →
            CallsIn (FW none) n P f Args w (Gives P lim g w s v s') := by
          intro e σ he hne hres
          simp only [Option.map_eq_some_iff, Prod.mk.injEq] at hres
          obtain ⟨v', hres, rfl, rfl⟩ := hres
          have hsz : Args.size = args.length := by have := ht.1; simpa using this.symm
          refine callsIn_of_wp_marks hf hb trivial ?_
          refine wpIn_mono (hex lim false ic _ e σ he c hic none rfl g { tmps := Args ++ Array.replicate (fn.ntmps - Args.size) undef, defers := [] } w n w.heap.size ?_ hI hl (Nat.le_refl _) trivial) ?_
          · have : (Args ++ Array.replicate (fn.ntmps - Args.size) undef).toList = Args.toList ++ List.replicate (fn.ntmps - args.length) undef := by simp [hsz]
            simp only [this]
            exact ht.app (tr_undefs g _)
          · rintro e' a' w' ⟨rfl, g', hA⟩
            have hlv := leaves_ok (n := n) (F := FW none) (R := Gives P lim g w s v' σ.s) (s := σ.s) (g0 := g) (w0 := w) hA.t hrs hres (fun V w' h1 h2 h3 => ⟨V, g', rfl, h1, h2, h3, hA.n⟩) a'.defers w' hA.marks hA.inv hA.ext
            cases e with
            | normal => exact hlv
            | ret => exact hlv
            | exit id => exact absurd rfl (hne id)
        split at h
        · cases h
        · rename_i e σ hne he
          exact key e σ he (fun id e => by subst e; exact hne _ rfl) h
        · cases h
      · cases hc
    · cases hc
theorem frz_gives {n0 : Nat} {g' : Gh} {w' : World} {s s' : Hp} {v v' : AV} {V : Value} (hI : Inv P g w s) (hI' : Inv P g' w' s') (hV : VR g' v V) (hfz : fz (look s'.h) n0 v = some v') (hι : ∀ id, id < n0 → g'.ι id = g.ι id)
    (hold : ∀ b, b < w.heap.size → w'.heap[b]? = w.heap[b]?) (hG : ∀ b o, g.G b = some o → g'.G b = some o) (hgf : ∀ b o, g'.G b = some o → g.G b = some o ∨ w.heap.size ≤ b)
    (hown : ∀ id loc, n0 ≤ id → g'.ι id = some loc → w.heap.size ≤ loc.b) (hsz : w.heap.size ≤ w'.heap.size) (hos : w'.os = w.os) (htape : w'.tape = w.tape) (hout : w'.output = w.output) :
    Gives P s.n g w s v' s (.returned V) w' := by
  have hle : g.le (frz g' w' n0 g.ι) := ⟨fun b o h => frz_G hI'.W b o (hG b o h), fun id loc h => ⟨loc, h, Nat.le_refl _, fun _ => rfl⟩⟩
  have hown : ∀ b, (∃ id loc, n0 ≤ id ∧ g'.ι id = some loc ∧ loc.b = b) → w.heap.size ≤ b := by
    rintro b ⟨id, loc, h1, h2, rfl⟩
    exact hown id loc h1 h2
  refine ⟨V, frz g' w' n0 g.ι, rfl, fz_ok hI'.H hI'.W hι hV hfz, ⟨?_, ⟨?_, ?_, ?_, ?_⟩, hI.dom, hI.wf⟩, ⟨hle, hsz, ?_, ?_, fun _ _ => rfl, hos, htape, hout, ?_⟩, Nat.le_refl _⟩
  · intro id ao ha
    exact (hI.H id ao ha).mono hle rfl (fun loc hl => hold _ (hI.W.lt id loc hl))
  · intro b o h
    simp only [frz] at h
    split at h
    · exact h
    · exact hI'.W.still b o h
  · intro id loc h
    have := hI.W.lt id loc h
    omega
  · intro id loc h
    have h : g.ι id = some loc := h
    have hlt := hI.W.lt id loc h
    simp only [frz]
    rw [if_neg (fun he => by have := hown _ he; omega)]
    cases hG' : g'.G loc.b with
    | none => rfl
    | some o =>
      rcases hgf _ _ hG' with k | k
      · rw [hI.W.out id loc h] at k; cases k
      · omega
  · exact hI.W.inj
  · intro b hb _
    exact hold b hb
  · intro id loc h
    exact .inl ⟨loc, h, rfl⟩
  · intro b o h
    simp only [frz] at h
    split at h
    · rename_i he
      exact .inr (hown b he)
    · exact hgf b o h
theorem pure_ok (hex : ExOK P ex) {f : FuncId} {fn : Func} {ifn : IFn} {pure frz : Bool} (hf : P.funcs[f]? = some fn) (hc : compFn P fn pure frz = some ifn) {args : List AV} {Args : Array Value} {s s' : Hp} {v v' : AV}
    (h : body ex s.n ifn args s = some (v, s')) (hfz : fz (look s'.h) s.n v = some v') (ht : TR g args Args.toList) (hI : Inv P g w s) : CallsIn (FW none) n P f Args w (Gives P s.n g w s v' s) := by
  refine CallsIn.mono (body_ok hex hf hc h ht hI (Nat.le_refl _)) ?_
  rintro e w' ⟨V, g', rfl, hV, hI', hE, hn⟩
  refine frz_gives hI hI' hV hfz (fun id hid => hE.old id hid) (fun b hb => hE.keep b hb (fun id loc hid hi => by
    have := hI.dom id (by rw [hi]; simp)
    omega)) hE.le.G hE.gfresh (fun id loc h1 h2 => ?_) hE.size hE.os hE.tape hE.output
  rcases hE.fresh id loc h2 with ⟨loc0, k1, k2⟩ | k
  · have := hI.dom id (by rw [k1]; simp)
    omega
  · exact k
theorem closed_still : ∀ {d : Nat} {x : AV} {X : Value}, closed d x = true → VR g x X → VR g.still x X
  | 0, _, _, h, _ => by simp [closed] at h
  | d + 1, x, X, h, hx => by
    cases hx with
    | v hg => exact .v hg
    | ip hs hc hv => exact .ip hs hc hv
    | is hs hl hr hc hv => exact .is hs hl hr hc hv
    | is0 => exact .is0
    | es => exact .es
    | im hb hl hk hv => exact .im hb hl hk hv
    | fn h1 h2 v1 v2 =>
      simp only [closed, Bool.and_eq_true, List.all_eq_true] at h
      exact .fn h1 h2 (fun i x y hx hy => closed_still (h.1 x (List.mem_of_getElem? hx)) (v1 i x y hx hy)) (fun i x y hx hy => closed_still (h.2 x (List.mem_of_getElem? hx)) (v2 i x y hx hy))
    | agg hl hc hv =>
      simp only [closed, List.all_eq_true] at h
      exact .agg hl hc (fun i x y hx hy => closed_still (h x (List.mem_of_getElem? hx)) (hv i x y hx hy))
    | tup hl hv =>
      simp only [closed, List.all_eq_true] at h
      exact .tup hl (fun i x y hx hy => closed_still (h x (List.mem_of_getElem? hx)) (hv i x y hx hy))
    | ptr => simp [closed] at h
    | sl => simp [closed] at h
    | map => simp [closed] at h
    | yield => simp [closed] at h
theorem closed_ok (hex : ExOK P ex) {f : FuncId} {fn : Func} {ifn : IFn} {pure frz : Bool} (hf : P.funcs[f]? = some fn) (hc : compFn P fn pure frz = some ifn) {args : List AV} {Args : Array Value} {s s' : Hp} {v v' : AV} (hcl : args.all (closed 4) = true)
    (h : body ex 0 ifn args { h := [], n := 0 } = some (v, s')) (hfz : fz (look s'.h) 0 v = some v') (ht : TR g args Args.toList) (hI : Inv P g w s) : CallsIn (FW none) n P f Args w (Gives P s.n g w s v' s) := by
  have ht' : TR g.still args Args.toList := ⟨ht.1, fun i x y hx hy => closed_still (List.all_eq_true.1 hcl x (List.mem_of_getElem? hx)) (ht.2 i x y hx hy)⟩
  have hI0 : Inv P g.still w { h := [], n := 0 } := ⟨fun id ao h => by simp [look] at h, ⟨hI.W.still, fun id loc h => by simp [Gh.still] at h, fun id loc h => by simp [Gh.still] at h, fun id id' loc loc' h => by simp [Gh.still] at h⟩, fun id h => by simp [Gh.still] at h, trivial⟩
  refine CallsIn.mono (body_ok hex hf hc h ht' hI0 (Nat.le_refl _)) ?_
  rintro e w' ⟨V, g', rfl, hV, hI', hE, hn⟩
  refine frz_gives hI hI' hV hfz (fun id hid => by omega) (fun b hb => hE.keep b hb (fun id loc hid hi => by simp [Gh.still] at hi)) hE.le.G hE.gfresh (fun id loc h1 h2 => ?_) hE.size hE.os hE.tape hE.output
  rcases hE.fresh id loc h2 with ⟨loc0, k1, k2⟩ | k
  · simp [Gh.still] at k1
  · exact k
theorem frozen_ok (hex : ExOK P ex) {f : FuncId} {fn : Func} {ifn : IFn} {pure frz : Bool} (hf : P.funcs[f]? = some fn) (hc : compFn P fn pure frz = some ifn) {args as : List AV} {Args : Array Value} {s s' : Hp} {v : AV} (hfa : mapO (fzA (look s.h) 6) args = some as)
    (h : body ex 0 ifn as { h := [], n := 0 } = some (v, s')) (hg : gnd 4 v = true) (ht : TR g args Args.toList) (hI : Inv P g w s) : CallsIn (FW none) n P f Args w (Gives P s.n g w s v s) := by
  let gf : Gh := Sim.frz g w 0 (fun _ => none)
  have ht' : TR gf as Args.toList := by
    obtain ⟨h1, h2⟩ := mapO_spec hfa
    refine ⟨by rw [h1]; exact ht.1, fun i x y hx hy => ?_⟩
    obtain ⟨x0, r1, r2⟩ := h2 i x hx
    exact fzA_ok (ι0 := fun _ => none) hI.H hI.W 6 x0 x y (ht.2 i x0 y r1 hy) r2
  have hI0 : Inv P gf w { h := [], n := 0 } := by
    refine ⟨fun id ao h => by simp [look] at h, ⟨fun b o h => ?_, fun id loc h => (by cases h), fun id loc h => (by cases h), fun id id' loc loc' h => (by cases h)⟩, fun id h => absurd rfl h, trivial⟩
    simp only [gf, Sim.frz] at h
    split at h
    · exact h
    · exact hI.W.still b o h
  refine CallsIn.mono (body_ok hex hf hc h ht' hI0 (Nat.le_refl _)) ?_
  rintro e w' ⟨V, g', rfl, hV, hI', hE, hn⟩
  have hold : ∀ b, b < w.heap.size → w'.heap[b]? = w.heap[b]? := fun b hb => hE.keep b hb (fun id loc hid hi => (by cases hi))
  have hlt : ∀ b o, g.G b = some o → b < w.heap.size := fun b o h => (Array.getElem?_eq_some_iff.1 (hI.W.still b o h)).1
  refine ⟨V, g, rfl, gnd_ok hg hV, ⟨fun id ao ha => (hI.H id ao ha).mono (.refl g) rfl (fun loc hl => hold _ (hI.W.lt id loc hl)), ⟨fun b o h => ?_, fun id loc h => ?_, hI.W.out, hI.W.inj⟩, hI.dom, hI.wf⟩, ⟨.refl g, hE.size, fun b hb _ => hold b hb, fun id loc h => .inl ⟨loc, h, rfl⟩, fun _ _ => rfl, hE.os, hE.tape, hE.output, fun _ _ h => .inl h⟩, Nat.le_refl _⟩
  · rw [hold b (hlt b o h)]
    exact hI.W.still b o h
  · have := hI.W.lt id loc h
    have := hE.size
    omega
theorem Gives.mono {lim' : Nat} {s s' : Hp} {v : AV} (hl : lim ≤ lim') {e : Ending} {w' : World} (h : Gives P lim' g w s v s' e w') : Gives P lim g w s v s' e w' := by
  obtain ⟨V, g', h1, h2, h3, h4, h5⟩ := h
  exact ⟨V, g', h1, h2, h3, h4.mono hl, h5⟩
theorem callF_ok (hex : ExOK P ex) (hT : TabOK P T) {f : FuncId} {args : List AV} {Args : Array Value} {s s' : Hp} {v : AV} (h : callF T ex lim f args s = some (v, s')) (ht : TR g args Args.toList) (hI : Inv P g w s)
    (hl : lim ≤ s.n) : CallsIn (FW none) n P f Args w (Gives P lim g w s v s') := by
  unfold callF at h
  split at h
  · cases h
  · rename_i ifn hifn
    obtain ⟨fn, hf, hc⟩ := hT f ifn hifn
    split at h
    · split at h
      · rename_i hcl
        split at h
        · rename_i v0 s0 hb
          simp only [Option.map_eq_some_iff, Prod.mk.injEq] at h
          obtain ⟨v1, hfz, rfl, rfl⟩ := h
          exact CallsIn.mono (closed_ok hex hf hc hcl hb hfz ht hI) (fun e w' h => h.mono hl)
        · cases h
      · split at h
        · split at h
          · rename_i as hfa
            split at h
            · rename_i v0 s0 hb
              split at h
              · rename_i hg
                cases h
                exact CallsIn.mono (frozen_ok hex hf hc hfa hb hg ht hI) (fun e w' h => h.mono hl)
              · cases h
            · cases h
          · cases h
        · split at h
          · rename_i v0 s0 hb
            simp only [Option.map_eq_some_iff, Prod.mk.injEq] at h
            obtain ⟨v1, hfz, rfl, rfl⟩ := h
            exact CallsIn.mono (pure_ok hex hf hc hb hfz ht hI) (fun e w' h => h.mono hl)
          · cases h
    · exact body_ok hex hf hc h ht hI hl
theorem callF_pure (hex : ExOK P ex) (hT : TabOK P T) {f : FuncId} {ifn : IFn} (hifn : T f = some ifn) (hp : ifn.pure = true) {args : List AV} {Args : Array Value} {s s' : Hp} {v : AV} (h : callF T ex lim f args s = some (v, s')) (ht : TR g args Args.toList) (hI : Inv P g w s) :
    s' = s ∧ CallsIn (FW none) n P f Args w (Gives P s.n g w s v s) := by
  unfold callF at h
  rw [hifn] at h
  simp only [hp, if_true] at h
  obtain ⟨fn, hf, hc⟩ := hT f ifn hifn
  split at h
  · rename_i hcl
    split at h
    · rename_i v0 s0 hb
      simp only [Option.map_eq_some_iff, Prod.mk.injEq] at h
      obtain ⟨v1, hfz, rfl, rfl⟩ := h
      exact ⟨rfl, closed_ok hex hf hc hcl hb hfz ht hI⟩
    · cases h
  · split at h
    · split at h
      · rename_i as hfa
        split at h
        · rename_i v0 s0 hb
          split at h
          · rename_i hg
            cases h
            exact ⟨rfl, frozen_ok hex hf hc hfa hb hg ht hI⟩
          · cases h
        · cases h
      · cases h
    · split at h
      · rename_i v0 s0 hb
        simp only [Option.map_eq_some_iff, Prod.mk.injEq] at h
        obtain ⟨v1, hfz, rfl, rfl⟩ := h
        exact ⟨rfl, pure_ok hex hf hc hb hfz ht hI⟩
      · cases h
end
end Go.Sim
set_option linter.unusedVariables false
set_option linter.unusedSimpArgs false
namespace Go.Sim
section
variable {P : Program} {T : Tab} {ex : Nat → Bool → IC → St → Option (Ex × St)} {lim n : Nat} {g : Gh} {w : World}
theorem loop_rec {l : Nat} {s : Hp} {st : LoopState} {pend : Option IC} {tmps : List AV} {params : List Nat} {assign bd : IC} (hI : Inv P g w s) (hL : look s.h l = some (.loop st pend tmps params assign bd)) :
    ∃ (loc : Loc) (R : Loop), g.ι l = some loc ∧ loc.ver = 0 ∧ w.heap[loc.b]? = some (.loop R) ∧ R.state = st ∧
      pendR pend R.pending ∧ TR g tmps R.tmps.toList ∧ R.params = params.toArray ∧ comp P R.assign = some assign ∧ comp P R.body = some bd := hI.H l _ hL
theorem inv_loop {l : Nat} {s : Hp} {st st' : LoopState} {pend pend' : Option IC} {tmps : List AV} {params : List Nat} {assign bd : IC} (hI : Inv P g w s) (hL : look s.h l = some (.loop st pend tmps params assign bd)) (hlim : lim ≤ l)
    {loc : Loc} {R R' : Loop} (hi : g.ι l = some loc) (hb : w.heap[loc.b]? = some (.loop R)) (h1 : R'.state = st')
    (h2 : pendR pend' R'.pending) (h3 : R'.tmps = R.tmps) (h4 : R'.params = R.params) (h5 : R'.assign = R.assign) (h6 : R'.body = R.body) :
    Inv P g { w with heap := w.heap.setIfInBounds loc.b (.loop R') } { h := upd s.h l (.loop st' pend' tmps params assign bd), n := s.n } ∧ Ext lim g g w { w with heap := w.heap.setIfInBounds loc.b (.loop R') } := by
  obtain ⟨loc', R0, k1, k2, k3, k4, k5, k6, k7, k8, k9⟩ := loop_rec hI hL
  rw [hi] at k1
  cases k1
  rw [hb] at k3
  cases k3
  have hlt := hI.W.lt l loc hi
  have hother : ∀ b, b ≠ loc.b → (w.heap.setIfInBounds loc.b (.loop R'))[b]? = w.heap[b]? := fun b hb => by simp [Ne.symm hb]
  refine ⟨⟨?_, ⟨?_, ?_, hI.W.out, hI.W.inj⟩, hI.dom, hI.wf.upd _ _⟩, ⟨.refl g, by simp, ?_, fun id loc h => .inl ⟨loc, h, rfl⟩, fun _ _ => rfl, rfl, rfl, rfl, fun _ _ h => .inl h⟩⟩
  · intro id ao ha
    simp only [look_upd] at ha
    split at ha
    · rename_i hc
      obtain ⟨rfl, _⟩ := hc
      cases ha
      exact ⟨loc, R', hi, k2, by simp [hlt], h1, h2, by rw [h3]; exact k6, by rw [h4]; exact k7, by rw [h5]; exact k8, by rw [h6]; exact k9⟩
    · rename_i hc
      have hne : id ≠ l := fun e => hc ⟨e, by rw [hL]; rfl⟩
      exact (hI.H id ao ha).mono (.refl g) rfl (fun loc2 hl2 => hother _ (fun e => hne (hI.W.inj id l loc2 loc hl2 hi e)))
  · intro b o h
    rw [hother b (fun e => by subst e; rw [hI.W.out l loc hi] at h; cases h)]
    exact hI.W.still b o h
  · intro id loc2 h
    simpa using hI.W.lt id loc2 h
  · intro b hb2 hn
    exact hother b (fun e => hn l loc hlim hi e.symm)
theorem getLoop_run {b : Nat} {R : Loop} (hb : w.heap[b]? = some (.loop R)) : (Instr.getLoop b).run P w = .ok R w := by
  simp [Instr.getLoop, getObj, Sem.run, hb]
theorem setObj_loop {b : Nat} {R : Loop} (hb : w.heap[b]? = some (.loop R)) (o : Obj) : (setObj b o).run P w = .ok () { w with heap := w.heap.setIfInBounds b o } := by
  simp [setObj, Sem.run, hb]
theorem beginRound_run {b : Nat} {R : Loop} (hb : w.heap[b]? = some (.loop R)) (hr : R.state = .ready) : (Instr.beginRound b).run P w = .ok () { w with heap := w.heap.setIfInBounds b (.loop { R with state := .busy }) } := by
  simp [Instr.beginRound, getLoop_run hb, setObj_loop hb, hr]
theorem endRound_run {b : Nat} {R : Loop} (hb : w.heap[b]? = some (.loop R)) (jump : Option Code) :
    (Instr.endRound b jump).run P w = .ok (.bool jump.isNone) { w with heap := w.heap.setIfInBounds b (.loop { R with state := if jump.isNone then .ready else .done, pending := jump }) } := by
  simp [Instr.endRound, getLoop_run hb, setObj_loop hb]
theorem putAll_tr : ∀ (ps : List Nat) (t : List AV) (args : List AV) (tmps : Array Value) (Args : List Value), TR g t tmps.toList → TR g args Args →
    TR g (putAll t ps args) ((ps.zip Args).foldl (fun tmps (p : Nat × Value) => tmps.setIfInBounds p.1 p.2) tmps).toList
  | [], t, args, tmps, Args, ht, ha => by
    simpa [putAll] using ht
  | p :: ps, t, [], tmps, [], ht, ha => by simpa [putAll] using ht
  | p :: ps, t, [], tmps, _ :: _, ht, ha => by have := ha.1; simp at this
  | p :: ps, t, _ :: _, tmps, [], ht, ha => by have := ha.1; simp at this
  | p :: ps, t, x :: args, tmps, y :: Args, ht, ha => by
    simp only [putAll, List.zip_cons_cons, List.foldl_cons]
    refine putAll_tr ps _ args _ Args ?_ ha.tail
    simpa using ht.set ha.head p
theorem endRound_spec {l : Nat} {s s' : Hp} {st : LoopState} {pend : Option IC} (h : endRound l s st pend = some s') :
    ∃ st0 pend0 tmps params assign bd, look s.h l = some (.loop st0 pend0 tmps params assign bd) ∧ s' = { h := upd s.h l (.loop st pend tmps params assign bd), n := s.n } := by
  unfold Sim.endRound at h
  split at h
  · rename_i hL
    cases h
    exact ⟨_, _, _, _, _, _, hL, rfl⟩
  · cases h
theorem round_ok (hex : ExOK P ex) {l : Nat} {args : List AV} {Args : Array Value} {s s' : Hp} {v : AV} (h : round ex lim l args s = some (v, s')) (ht : TR g args Args.toList) (hI : Inv P g w s) (hl : lim ≤ s.n) :
    ∃ (loc : Loc) (R : Loop), g.ι l = some loc ∧ loc.ver = 0 ∧ w.heap[loc.b]? = some (.loop R) ∧ R.params.size = Args.size ∧
      ∀ (r : Option Nat) (n : Nat), RoundIn (FW r) n P loc.b R.fn ((R.params.zip Args).foldl (fun tmps (p : Tmp × Value) => tmps.setIfInBounds p.1 p.2) R.tmps) R.assign R.body w (Gives P lim g w s v s') := by
  unfold Sim.round at h
  split at h
  · rename_i st0 pend0 tmps params assign bd hL
    split at h
    · rename_i hc
      obtain ⟨hlim, hpl⟩ := hc
      obtain ⟨loc, R, k1, k2, k3, k4, k5, k6, k7, k8, k9⟩ := loop_rec hI hL
      have hps : R.params.size = Args.size := by rw [k7]; have := ht.1; simp at this ⊢; omega
      refine ⟨loc, R, k1, k2, k3, hps, fun r n => ?_⟩
      split at h
      · rename_i σ hassign
        split at h
        · rename_i pend2 tmps2 params2 assign2 bd2 hL2
          have htm : TR g (putAll tmps params args) ((R.params.zip Args).foldl (fun tmps (p : Tmp × Value) => tmps.setIfInBounds p.1 p.2) R.tmps).toList := by
            have := putAll_tr params tmps args R.tmps Args.toList k6 ht
            rw [k7]
            have e : (params.toArray.zip Args).foldl (fun tmps (p : Tmp × Value) => tmps.setIfInBounds p.1 p.2) R.tmps = (params.zip Args.toList).foldl (fun tmps (p : Nat × Value) => tmps.setIfInBounds p.1 p.2) R.tmps := by
              rw [← Array.foldl_toList]
              simp
            rw [e]
            exact this
          refine roundIn_of_wpIn trivial ?_
          refine wpIn_mono (hex lim true assign _ .normal σ hassign R.assign k8 (some loc.b) rfl g { tmps := _, defers := [] } w n w.heap.size htm hI hl (Nat.le_refl _) trivial) ?_
          rintro e1 a1 w1 ⟨rfl, g1, hA⟩
          simp only [Ex.toExit, Exit.then]
          obtain ⟨loc1, R1, m1, m2, m3, m4, m5, m6, m7, m8, m9⟩ := loop_rec hA.inv hL2
          have hlb : loc1 = loc := by
            obtain ⟨loc', q1, q2, q3⟩ := hA.ext.le.ι l loc k1
            rw [m1] at q1
            cases q1
            exact q3 (by omega)
          subst hlb
          obtain ⟨hI2, hE2⟩ := inv_loop (lim := lim) (st' := .busy) (pend' := pend2) (R' := { R1 with state := .busy }) hA.inv hL2 hlim m1 m3 rfl m5 rfl rfl rfl rfl
          refine ⟨_, beginRound_run m3 m4, ?_⟩
          -- the body
          have hbody : ∀ (e : Ex) (τ : St), ex lim true bd { t := σ.t, s := { h := upd σ.s.h l (.loop .busy pend2 tmps2 params2 assign2 bd2), n := σ.s.n } } = some (e, τ) → ∀ (st : LoopState) (pend : Option IC) (jump : Option Code) (b : Bool),
              endRound l τ.s st pend = some s' → v = .bool b → b = jump.isNone → st = (if jump.isNone then .ready else .done) →
              pendR pend jump →
              (∀ (a' : Act) (w' : World), (∃ v' w'', (Instr.endRound loc1.b jump).run P w' = .ok v' w'' ∧ Gives P lim g w s v s' (.returned v') w'') → roundPost P loc1.b (Gives P lim g w s v s') e.toExit a' w') →
              R.body.wpIn (FW (some loc1.b)) n P (roundPost P loc1.b (Gives P lim g w s v s')) a1 { w1 with heap := w1.heap.setIfInBounds loc1.b (.loop { R1 with state := .busy }) } := by
            intro e τ hb st pend jump b hend hv hbj hst hpj hpost
            refine wpIn_mono (hex lim true bd _ e τ hb R.body k9 (some loc1.b) rfl g1 a1 _ n w.heap.size hA.t hI2 (Nat.le_trans hl hA.n) (by have := hA.ext.size; simpa using this) (hA.marks.ext hE2)) ?_
            rintro e2 a2 w2 ⟨rfl, g2, hB⟩
            refine hpost a2 w2 ?_
            obtain ⟨st3, pend3, tmps3, params3, assign3, bd3, hL3, rfl⟩ := endRound_spec hend
            obtain ⟨loc3, R3, q1, q2, q3, q4, q5, q6, q7, q8, q9⟩ := loop_rec hB.inv hL3
            have hlb3 : loc3 = loc1 := by
              obtain ⟨loc', p1, p2, p3⟩ := hB.ext.le.ι l loc1 m1
              rw [q1] at p1
              cases p1
              exact p3 (by omega)
            subst hlb3
            obtain ⟨hI4, hE4⟩ := inv_loop (lim := lim) (st' := st) (pend' := pend) (R' := { R3 with state := if jump.isNone then .ready else .done, pending := jump }) hB.inv hL3 hlim q1 q3 hst.symm
              hpj rfl rfl rfl rfl
            refine ⟨_, _, endRound_run q3 jump, _, g2, rfl, ?_, hI4, ((hA.ext.trans hE2).trans hB.ext).trans hE4, ?_⟩
            · rw [hv, hbj]
              exact .v rfl
            · have h1 : s.n ≤ σ.s.n := hA.n
              have h2 : σ.s.n ≤ τ.s.n := hB.n
              simp only at h2 ⊢
              omega
          split at h
          · rename_i τ hb
            simp only [Option.map_eq_some_iff, Prod.mk.injEq] at h
            obtain ⟨s2, hend, rfl, rfl⟩ := h
            exact hbody .normal τ hb .ready none none true hend rfl rfl rfl rfl (fun a' w' h => h)
          · rename_i τ hb
            simp only [Option.map_eq_some_iff, Prod.mk.injEq] at h
            obtain ⟨s2, hend, rfl, rfl⟩ := h
            exact hbody .ret τ hb .done (some .ret) (some .ret) false hend rfl rfl rfl rfl (fun a' w' h => h)
          · rename_i id τ hb
            simp only [Option.map_eq_some_iff, Prod.mk.injEq] at h
            obtain ⟨s2, hend, rfl, rfl⟩ := h
            exact hbody (.exit id) τ hb .done (some (.exit id)) (some (.exit id)) false hend rfl rfl rfl rfl (fun a' w' h => h)
          · cases h
        · cases h
      · cases h
    · cases h
  · cases h
end
end Go.Sim
set_option linter.unusedVariables false
set_option linter.unusedSimpArgs false
namespace Go.Sim
section
variable {P : Program} {T : Tab} {ex : Nat → Bool → IC → St → Option (Ex × St)} {lim n : Nat} {g : Gh} {w : World} {r : Option Nat}
theorem compFn_spec {fn : Func} {pure frz : Bool} {ifn : IFn} (h : compFn P fn pure frz = some ifn) : (∃ c, fn.body = some c) ∧ (fn.name == "runtime.NumGoroutine") = false := by
  unfold compFn at h
  split at h
  · cases h
  · rename_i c hb
    split at h
    · split at h
      · rename_i hn
        exact ⟨⟨c, hb⟩, by simpa using hn⟩
      · cases h
    · cases h
theorem run_fnval {ρ : Operand → Value} {o : Oper} {fv : Operand} {args : Array Operand} {at_ : Array TypeId} {f : FuncId} {F C : Array Value} {fn : Func} {c : Code} (ho : o.op = .call { callee := .value fv, args := args, argTypes := at_ }) (hV : ρ fv = .func (.func f) F C)
    (hf : P.funcs[f]? = some fn) (hb : fn.body = some c) (hname : (fn.name == "runtime.NumGoroutine") = false) : (execOp ρ o).run P w = .ok (.enter f (F ++ args.map ρ ++ C)) w := by
  have hname' : ¬ fn.name = "runtime.NumGoroutine" := by simpa using hname
  simp [execOp, ho, resolve, hV, Deferred.ofValue, invoke, callFunc, hf, hname', hb]
theorem run_yield {ρ : Operand → Value} {o : Oper} {fv : Operand} {args : Array Operand} {at_ : Array TypeId} {b : Nat} {R : Loop} (ho : o.op = .call { callee := .value fv, args := args, argTypes := at_ }) (hV : ρ fv = .func (.yield b) #[] #[])
    (hb : w.heap[b]? = some (.loop R)) (hsz : R.params.size = args.size) : (execOp ρ o).run P w = .ok (.round b R.fn ((R.params.zip (args.map ρ)).foldl (fun tmps (p : Tmp × Value) => tmps.setIfInBounds p.1 p.2) R.tmps) R.assign R.body) w := by
  simp [execOp, ho, resolve, hV, Deferred.ofValue, invoke, Instr.yield, getLoop_run hb, hsz]
theorem semAt_exec {o : Oper} {ρ : Operand → Value} (r : Option Nat) (h : ∀ c, o.op ≠ .defer c) : Oper.semAt r ρ o = execOp ρ o := by
  cases r with
  | none => exact Oper.semAt_none ..
  | some l =>
    unfold Oper.semAt
    cases ho : o.op <;> first | rfl | exact absurd ho (h _)
theorem compOp_defer {o : Op} {ty : TypeId} {k : OpK} {os : List Operand} (h : compOp P o ty = some (k, os)) : ∀ c, o ≠ .defer c := by
  rintro c rfl
  simp [compOp] at h
theorem plain_ok {o : Oper} {k : OpK} {os : List Operand} {xs : List AV} {out : Out} {s : Hp} {a : Act} (ho : compOp P o.op o.type = some (k, os)) (hd : doOp (look s.h) lim s.n k xs = some out) (ht : TR g xs (os.map a.eval)) (hI : Inv P g w s)
    (hl : lim ≤ s.n) {next : Act → World → Prop} {Q : Exit → Act → World → Prop} (hnext : ∀ V g' w', VR g' out.v V → Inv P g' w' (out.apply s) → Ext lim g g' w w' → s.n ≤ (out.apply s).n → next (a.put o.dst V) w') :
    o.wpIn (FW r) n P a w next Q := by
  have hn : g.ι s.n = none := by
    cases h : g.ι s.n with
    | none => rfl
    | some l => have := hI.dom s.n (by rw [h]; simp); omega
  obtain ⟨V, nx, g', w', hrun, hnx, hv, hH, hW, hE, hdom⟩ := doOp_sound a.eval o ho ht hd hI.H hI.W hn hl
  have hap : Inv P g' w' (out.apply s) := by
    have hlk : ∀ id ao, look (out.apply s).h id = some ao → out.after (look s.h) s.n id = some ao := by
      intro id ao h
      cases hu : out.up with
      | none =>
        cases hw : out.new with
        | none => simpa [Out.apply, Out.after, Out.base, hu, hw] using h
        | some ob =>
          simp only [Out.apply, hu, hw, look] at h
          simp only [Out.after, Out.base, hu, hw]
          split at h
          · rename_i e; subst e; simpa using h
          · rename_i e; rw [if_neg (fun e2 => e e2.symm)]; exact h
      | some p =>
        obtain ⟨i, ob'⟩ := p
        have h2 : ∀ id ao, look (upd s.h i ob') id = some ao → (if id = i then some ob' else look s.h id) = some ao := by
          intro id ao h
          rw [look_upd] at h
          split at h
          · rename_i hc; rw [if_pos hc.1]; exact h
          · rename_i hc
            split
            · rename_i e
              subst e
              exfalso
              apply hc
              exact ⟨rfl, by rw [h]; rfl⟩
            · exact h
        cases hw : out.new with
        | none =>
          simp only [Out.apply, hu, hw] at h
          simpa only [Out.after, Out.base, hu, hw] using h2 id ao h
        | some ob =>
          simp only [Out.apply, hu, hw, look] at h
          simp only [Out.after, Out.base, hu, hw]
          split at h
          · rename_i e; subst e; simpa using h
          · rename_i e; rw [if_neg (fun e2 => e e2.symm)]; exact h2 id ao h
    refine ⟨fun id ao h => hH id ao (hlk id ao h), hW, fun id h => ?_, ?_⟩
    · rcases hdom id h with h1 | ⟨rfl, h2⟩
      · have := hI.dom id h1
        simp only [Out.apply]
        split
        · simp only; omega
        · exact this
      · simp only [Out.apply]
        split
        · simp
        · rename_i h3; rw [h3] at h2; cases h2
    · have hu : Wf (match out.up with | some (id, ob) => upd s.h id ob | none => s.h) s.n := by
        split
        · exact hI.wf.upd _ _
        · exact hI.wf
      simp only [Out.apply]
      split
      · exact ⟨by simp, hu⟩
      · exact hu
  have hge : s.n ≤ (out.apply s).n := by
    simp only [Out.apply]
    split
    · simp
    · exact Nat.le_refl _
  refine ⟨fun _ _ => trivial, ?_⟩
  rw [semAt_exec _ (compOp_defer ho), hrun]
  rcases hnx with rfl | ⟨rfl, rfl⟩
  · exact hnext V g' w' hv hap hE hge
  · exact hnext undef g' w' hv hap hE hge
theorem compOp_call {o : Op} {ty : TypeId} {os : List Operand} {k : OpK} (h : compOp P o ty = some (k, os)) (hk : k = .callV ∨ ∃ f, k = .callF f) :
    ∃ c fv, o = .call c ∧ c.callee = .value fv ∧ ((∃ f, k = .callF f ∧ fv = .func f ∧ os = c.args.toList) ∨ (k = .callV ∧ os = fv :: c.args.toList)) := by
  have nob : ∀ b at_ ty, compBuiltin P b at_ ty ≠ some .callV ∧ ∀ f, compBuiltin P b at_ ty ≠ some (.callF f) := by
    intro b at_ ty
    constructor
    · intro h
      unfold compBuiltin at h
      split at h <;> (repeat' split at h) <;> cases h
    · intro f h
      unfold compBuiltin at h
      split at h <;> (repeat' split at h) <;> cases h
  cases o
  case call c =>
    simp only [compOp] at h
    split at h
    · rename_i f hc
      cases h
      exact ⟨c, _, rfl, hc, .inl ⟨f, rfl, rfl, rfl⟩⟩
    · rename_i fv _ hc
      cases h
      exact ⟨c, _, rfl, hc, .inr ⟨rfl, rfl⟩⟩
    · rename_i b hc
      simp only [Option.map_eq_some_iff, Prod.mk.injEq] at h
      obtain ⟨k', h1, rfl, rfl⟩ := h
      rcases hk with rfl | ⟨f, rfl⟩
      · exact absurd h1 (nob b _ _).1
      · exact absurd h1 ((nob b _ _).2 f)
    · cases h
  all_goals (rcases hk with rfl | ⟨f, rfl⟩ <;> exfalso <;> simp only [compOp] at h <;> (repeat' split at h) <;> simp_all)
theorem fncall_ok (hT : TabOK P T) {o : Oper} {c : Call} {fv : Operand} {f : FuncId} {first cap : Array Value} {a : Act} {ifn : IFn} (ho : o.op = .call c) (hc : c.callee = .value fv) (hV : a.eval fv = .func (.func f) first cap) (hifn : T f = some ifn)
    {R : Ending → World → Prop} (hcall : CallsIn (FW none) (n - 1) P f (first ++ c.args.map a.eval ++ cap) w R) {next : Act → World → Prop} {Q : Exit → Act → World → Prop} (hR : ∀ e w', R e w' → ∃ V, e = .returned V ∧ next (a.put o.dst V) w') :
    o.wpIn (FW r) n P a w next Q := by
  obtain ⟨fn, hf, hcf⟩ := hT f ifn hifn
  obtain ⟨⟨cd, hb⟩, hname⟩ := compFn_spec hcf
  obtain ⟨callee, args, at_⟩ := c
  simp only at hc
  subst hc
  refine ⟨fun _ _ => trivial, ?_⟩
  rw [semAt_exec _ (fun c h => by rw [ho] at h; cases h), run_fnval ho hV hf hb hname]
  refine ⟨fun h => (by cases h), CallsIn.mono (callsIn_FW hcall) ?_⟩
  intro e w' he
  obtain ⟨V, rfl, h⟩ := hR e w' he
  exact h
theorem step_ok (hex : ExOK P ex) (hT : TabOK P T) {o : Oper} {k : OpK} {os : List Operand} {xs : List AV} {v : AV} {s s' : Hp} {a : Act} (ho : (compOp P o.op o.type).getD (.fail, []) = (k, os)) (h : step T ex lim k xs s = some (v, s'))
    (ht : TR g xs (os.map a.eval)) (hI : Inv P g w s) (hl : lim ≤ s.n) {next : Act → World → Prop} {Q : Exit → Act → World → Prop}
    (hnext : ∀ V g' w', VR g' v V → Inv P g' w' s' → Ext lim g g' w w' → s.n ≤ s'.n → next (a.put o.dst V) w') : o.wpIn (FW r) n P a w next Q := by
  cases hco : compOp P o.op o.type with
  | none =>
    rw [hco] at ho
    cases ho
    simp only [step, doOp_fail] at h
    cases h
  | some p =>
    rw [hco] at ho
    cases ho
    have plain : ∀ out, doOp (look s.h) lim s.n k xs = some out → (out.v, out.apply s) = (v, s') → o.wpIn (FW r) n P a w next Q := by
      intro out hd he
      cases he
      exact plain_ok hco hd ht hI hl hnext
    unfold step at h
    split at h
    · rename_i f
      obtain ⟨c, fv, h1, h2, h3⟩ := compOp_call hco (.inr ⟨f, rfl⟩)
      rcases h3 with ⟨f', h4, h5, h6⟩ | ⟨h4, _⟩
      · cases h4
        subst h5
        have hifn : ∃ ifn, T f = some ifn := by
          unfold callF at h
          split at h
          · cases h
          · rename_i ifn hi; exact ⟨ifn, hi⟩
        obtain ⟨ifn, hifn⟩ := hifn
        have hargs : TR g xs (#[] ++ c.args.map a.eval ++ #[]).toList := by rw [h6] at ht; simpa using ht
        exact fncall_ok hT h1 h2 rfl hifn (callF_ok hex hT h hargs hI hl) (fun e w' he => by
          obtain ⟨V, g', rfl, k1, k2, k3, k4⟩ := he
          exact ⟨V, rfl, hnext V g' w' k1 k2 k3 k4⟩)
      · cases h4
    · obtain ⟨c, fv, h1, h2, h3⟩ := compOp_call hco (.inl rfl)
      rcases h3 with ⟨f', h4, _⟩ | ⟨_, h6⟩
      · cases h4
      · subst h6
        split at h
        · rename_i fa args
          have hfa := ht.head
          have hargs := ht.tail
          unfold callV at h
          split at h
          · rename_i f first cap
            generalize hV : a.eval fv = V at hfa
            cases hfa with
            | @fn _ _ _ _ F C l1 l2 v1 v2 =>
              have hifn : ∃ ifn, T f = some ifn := by
                unfold callF at h
                split at h
                · cases h
                · rename_i ifn hi; exact ⟨ifn, hi⟩
              obtain ⟨ifn, hifn⟩ := hifn
              have hF : TR g first F.toList := ⟨by simpa using l1, fun i x y hx hy => v1 i x y hx (by simpa using hy)⟩
              have hC : TR g cap C.toList := ⟨by simpa using l2, fun i x y hx hy => v2 i x y hx (by simpa using hy)⟩
              have hall : TR g (first ++ args ++ cap) (F ++ c.args.map a.eval ++ C).toList := by
                have := (hF.app hargs).app hC
                simpa using this
              exact fncall_ok hT h1 h2 hV hifn (callF_ok hex hT h hall hI hl) (fun e w' he => by
                obtain ⟨V, g', rfl, k1, k2, k3, k4⟩ := he
                exact ⟨V, rfl, hnext V g' w' k1 k2 k3 k4⟩)
          · rename_i l
            generalize hV : a.eval fv = V at hfa
            cases hfa with
            | @yield _ _ b loc hi hp =>
              have hargs' : TR g args (c.args.map a.eval).toList := by simpa using hargs
              obtain ⟨loc', R, k1, k2, k3, k4, k5⟩ := round_ok hex h hargs' hI hl
              rw [hi] at k1
              cases k1
              have hbb := hp k2
              subst hbb
              obtain ⟨callee, cargs, at_⟩ := c
              simp only at h2 k4 k5
              subst h2
              refine ⟨fun _ _ => trivial, ?_⟩
              rw [semAt_exec _ (fun c h => by rw [h1] at h; cases h), run_yield h1 hV k3 (by simpa using k4)]
              refine ⟨fun h => (by cases h), RoundIn.mono (k5 r (n - 1)) ?_⟩
              rintro e w' ⟨V, g', rfl, q1, q2, q3, q4⟩
              exact hnext V g' w' q1 q2 q3 q4
          · cases h
        · cases h
    · split at h
      · rename_i out hd
        cases h
        exact plain out hd rfl
      · cases h
theorem lt_of {a : Act} {t : List AV} {i : Nat} {v : AV} (ht : TR g t a.tmps.toList) (hv : t[i]? = some v) : i < a.tmps.size := by
  have h1 : t.length = a.tmps.size := by simpa using ht.1
  have h2 := (List.getElem?_eq_some_iff.1 hv).1
  omega
theorem opnd_ok {a : Act} {t : List AV} {x : Operand} {ix : IX} {v : AV} (ht : TR g t a.tmps.toList) (hx : opnd x = some ix) (hv : ix.ev t = some v) : VR g v (a.eval x) := by
  cases x with
  | tmp i =>
    simp only [opnd, Option.some.injEq] at hx
    subst hx
    simp only [IX.ev] at hv
    have hlt : i < a.tmps.size := lt_of ht hv
    have : a.eval (.tmp i) = a.tmps[i] := by simp [Act.eval, hlt]
    rw [this]
    exact ht.2 i v _ hv (by simp [hlt])
  | const c =>
    simp only [opnd, Option.map_eq_some_iff] at hx
    obtain ⟨av, h1, rfl⟩ := hx
    simp only [IX.ev, Option.some.injEq] at hv
    subst hv
    show VR g av c
    unfold AV.ofValue at h1
    split at h1
    · rename_i cs
      split at h1
      · rename_i hc
        cases h1
        refine .agg (by simp) (fun i y hy => ground_isCell (List.all_eq_true.1 hc y (by
          rw [← Array.getElem?_toList] at hy
          exact List.mem_iff_getElem?.2 ⟨i, hy⟩))) (fun i x y hx hy => ?_)
        rw [← Array.getElem?_toList] at hy
        simp only [List.getElem?_map, hy, Option.map_some, Option.some.injEq] at hx
        subst hx
        exact .v (List.all_eq_true.1 hc y (List.mem_iff_getElem?.2 ⟨i, hy⟩))
      · cases h1
    · rename_i cs
      split at h1
      · rename_i hc
        cases h1
        have : cs = #[] := by
          rw [List.isEmpty_iff] at hc
          cases cs
          simp_all
        subst this
        exact .tup (by simp) (fun i x y hx => by simp at hx)
      · cases h1
    · split at h1
      · rename_i hc
        cases h1
        exact .v hc
      · cases h1
  | global g => simp [opnd] at hx
  | func f =>
    simp only [opnd, Option.some.injEq] at hx
    subst hx
    simp only [IX.ev, Option.some.injEq] at hv
    subst hv
    exact .fn (by simp) (by simp) (fun i x y h => by simp at h) (fun i x y h => by simp at h)
theorem opnds_ok {a : Act} {t : List AV} (ht : TR g t a.tmps.toList) : ∀ {os : List Operand} {ixs : List IX} {xs : List AV}, opnds os = some ixs → evs t ixs = some xs → TR g xs (os.map a.eval)
  | [], ixs, xs, h, hx => by
    simp only [opnds, mapO, Option.some.injEq] at h
    subst h
    simp only [evs, Option.some.injEq] at hx
    subst hx
    exact .nil g
  | o :: os, ixs, xs, h, hx => by
    simp only [opnds, mapO] at h
    split at h
    · rename_i ix rest h1 h2
      cases h
      simp only [evs] at hx
      split at hx
      · rename_i v vs h3 h4
        cases hx
        exact .cons (opnd_ok ht h1 h3) (opnds_ok ht h2 h4)
      · cases hx
    · cases h
theorem put_tr {a : Act} {t : List AV} (ht : TR g t a.tmps.toList) {v : AV} {V : Value} (hv : VR g v V) (d : Option Nat) : TR g (put t d v) (a.put d V).tmps.toList := by
  cases d with
  | none => exact ht
  | some i => simpa [put, Act.put] using ht.set hv i
theorem compOper_spec {ops : List Oper} {o : Oper} {io : Sim.Op1} (h : compOper P ops o = some io) :
    ∃ os, (compOp P o.op o.type).getD (.fail, []) = (io.k, os) ∧ opnds os = some io.xs ∧ io.dst = o.dst ∧
      (match o.guard with
       | none => io.guard = none
       | some (j, b) => ∃ oj d, ops[j]? = some oj ∧ oj.dst = some d ∧ io.guard = some (d, b)) := by
  unfold compOper at h
  generalize hc : (compOp P o.op o.type).getD (.fail, []) = kx at h
  obtain ⟨k, xs⟩ := kx
  simp only at h
  split at h
  · cases h
  · rename_i ixs hix
    split at h
    · rename_i hg
      cases h
      exact ⟨xs, rfl, hix, rfl, by rw [hg]⟩
    · rename_i j b hg
      split at h
      · rename_i oj hj
        split at h
        · rename_i d hd
          cases h
          refine ⟨xs, rfl, hix, rfl, ?_⟩
          rw [hg]
          exact ⟨oj, d, hj, hd, rfl⟩
        · cases h
      · cases h
def boolV : Value → Option Bool
  | .bool b => some b
  | _ => none
def boolA : AV → Option Bool
  | .v x => boolV x
  | _ => none
theorem VR.boolCell {x : AV} {X : Value} (h : VR g x X) : boolV X = boolA x := by
  cases h <;> rfl
theorem wanted_ok {a : Act} {t : List AV} (ht : TR g t a.tmps.toList) {ops : Array Oper} {o : Oper} {io : Sim.Op1} (h : compOper P ops.toList o = some io) : Region.wanted o (yielded ops a.tmps) = Sim.wanted t io.guard := by
  obtain ⟨os, h1, h2, h3, h4⟩ := compOper_spec h
  unfold Region.wanted
  cases hg : o.guard with
  | none => rw [hg] at h4; simp only at h4; rw [h4]; rfl
  | some p =>
    obtain ⟨j, b⟩ := p
    rw [hg] at h4
    obtain ⟨oj, d, k1, k2, k3⟩ := h4
    rw [k3]
    simp only [Sim.wanted, yielded]
    have : ops[j]? = some oj := by simpa using k1
    rw [this]
    simp only [Option.bind_some, k2]
    cases hx : t[d]? with
    | none =>
      have : a.tmps[d]? = none := by
        have h1 : t.length = a.tmps.size := by simpa using ht.1
        rw [List.getElem?_eq_none_iff] at hx
        simp
        omega
      rw [this]
      rfl
    | some x =>
      have hlt : d < a.tmps.size := lt_of ht hx
      have hX : a.tmps[d]? = some a.tmps[d] := by simp [hlt]
      have hv := ht.2 d x a.tmps[d] hx (by simp [hlt])
      rw [hX]
      have hb := hv.boolCell
      generalize a.tmps[d] = X at hb
      revert hb
      cases x with
      | v y => cases X <;> cases y <;> simp [boolA, boolV] <;> (intro h; subst h; rfl)
      | _ => cases X <;> simp [boolA, boolV]
theorem runOps_ok (hex : ExOK P ex) (hT : TabOK P T) {ops : Array Oper} {base : Nat} {Q : Exit → Act → World → Prop} :
    ∀ (rest : List Oper) (ios : List Sim.Op1) (k : Nat) (σ σ' : St) (g : Gh) (w : World) (a : Act), mapO (compOper P ops.toList) rest = some ios → (∀ j, rest[j]? = ops[k + j]?) → runOps T ex lim ios σ = some σ' →
      TR g σ.t a.tmps.toList → Inv P g w σ.s → lim ≤ σ.s.n → Marks base g w a.defers →
      (∀ g' a' w', After P base lim g w σ.s σ'.t σ'.s g' a' w' → Q .normal a' w') → wpOpsIn (FW r) n P ops Q (List.range' k rest.length) a w
  | [], ios, k, σ, σ', g, w, a, hc, hops, h, ht, hI, hl, hm, hQ => by
    simp only [mapO, Option.some.injEq] at hc
    subst hc
    simp only [runOps, Option.some.injEq] at h
    subst h
    exact hQ g a w ⟨ht, hI, .refl lim g w, Nat.le_refl _, hm⟩
  | o :: rest, ios, k, σ, σ', g, w, a, hc, hops, h, ht, hI, hl, hm, hQ => by
    simp only [mapO] at hc
    split at hc
    · rename_i io ios' hio hios
      cases hc
      have h0 : ops[k]? = some o := by simpa using (hops 0).symm
      have hrest : ∀ j, rest[j]? = ops[(k + 1) + j]? := fun j => by have := hops (j + 1); simpa [Nat.add_assoc, Nat.add_comm 1 j] using this
      simp only [List.length_cons, List.range'_succ, wpOpsIn, h0]
      rw [wanted_ok ht hio]
      obtain ⟨os, c1, c2, c3, c4⟩ := compOper_spec hio
      simp only [runOps] at h
      split at h
      · rename_i hw
        rw [if_pos hw]
        split at h
        · rename_i xs hxs
          split at h
          · rename_i v s hst
            refine step_ok hex hT c1 hst (opnds_ok ht c2 hxs) hI hl (fun V g' w' k1 k2 k3 k4 => ?_)
            have hput := put_tr (ht.mono k3.le) k1 io.dst
            rw [c3] at hput
            have hmk : Marks base g' w' (a.put o.dst V).defers := by
              have : (a.put o.dst V).defers = a.defers := by cases o.dst <;> rfl
              rw [this]
              exact hm.ext k3
            refine runOps_ok hex hT rest ios' (k + 1) _ σ' g' w' (a.put o.dst V) hios hrest h (by rw [c3]; exact hput) k2 (Nat.le_trans hl k4) hmk (fun g'' a'' w'' hA => ?_)
            exact hQ g'' a'' w'' ⟨hA.t, hA.inv, k3.trans hA.ext, Nat.le_trans k4 hA.n, hA.marks⟩
          · cases h
        · cases h
      · rename_i hw
        rw [if_neg hw]
        refine ⟨fun _ _ => trivial, ?_⟩
        have hput := put_tr ht (.undef g) io.dst
        rw [c3] at hput
        have hmk : Marks base g w (a.put o.dst undef).defers := by
          have : (a.put o.dst undef).defers = a.defers := by cases o.dst <;> rfl
          rw [this]
          exact hm
        exact runOps_ok hex hT rest ios' (k + 1) _ σ' g w (a.put o.dst undef) hios hrest h (by rw [c3]; exact hput) hI hl hmk hQ
    · cases hc
end
end Go.Sim
set_option linter.unusedVariables false
set_option linter.unusedSimpArgs false
namespace Go.Sim
structure Grows (s s' : Hp) : Prop where
  wf : Wf s.h s.n → Wf s'.h s'.n
  n : s.n ≤ s'.n
theorem Grows.refl (s : Hp) : Grows s s := ⟨id, Nat.le_refl _⟩
theorem Grows.trans {a b c : Hp} (h : Grows a b) (k : Grows b c) : Grows a c := ⟨fun w => k.wf (h.wf w), Nat.le_trans h.n k.n⟩
theorem grows_apply (out : Out) (s : Hp) : Grows s (out.apply s) := by
  constructor
  · intro hw
    have hu : Wf (match out.up with | some (id, ob) => upd s.h id ob | none => s.h) s.n := by
      split
      · exact hw.upd _ _
      · exact hw
    simp only [Out.apply]
    split
    · exact ⟨by simp, hu⟩
    · exact hu
  · simp only [Out.apply]
    split
    · simp
    · exact Nat.le_refl _
theorem grows_upd (s : Hp) (id : Nat) (o : AO) : Grows s { h := upd s.h id o, n := s.n } := ⟨fun h => h.upd _ _, Nat.le_refl _⟩
section
variable {T : Tab} {ex : Nat → Bool → IC → St → Option (Ex × St)}
def GrowsX (ex : Nat → Bool → IC → St → Option (Ex × St)) : Prop := ∀ lim rd c σ e σ', ex lim rd c σ = some (e, σ') → Grows σ.s σ'.s
theorem grows_body (hx : GrowsX ex) {lim : Nat} {fn : IFn} {args : List AV} {s s' : Hp} {v : AV} (h : body ex lim fn args s = some (v, s')) : Grows s s' := by
  unfold body at h
  split at h
  · cases h
  · rename_i e σ hne he
    simp only [Option.map_eq_some_iff, Prod.mk.injEq] at h
    obtain ⟨v', _, _, rfl⟩ := h
    exact hx _ _ _ _ _ _ he
  · cases h
theorem grows_callF (hx : GrowsX ex) {lim : Nat} {f : FuncId} {args : List AV} {s s' : Hp} {v : AV} (h : callF T ex lim f args s = some (v, s')) : Grows s s' := by
  unfold callF at h
  split at h
  · cases h
  · split at h
    · split at h
      · split at h
        · simp only [Option.map_eq_some_iff, Prod.mk.injEq] at h
          obtain ⟨_, _, _, rfl⟩ := h
          exact .refl _
        · cases h
      · split at h
        · split at h
          · split at h
            · split at h
              · cases h
                exact .refl _
              · cases h
            · cases h
          · cases h
        · split at h
          · simp only [Option.map_eq_some_iff, Prod.mk.injEq] at h
            obtain ⟨_, _, _, rfl⟩ := h
            exact .refl _
          · cases h
    · exact grows_body hx h
theorem grows_endRound {l : Nat} {s s' : Hp} {st : LoopState} {pend : Option IC} (h : endRound l s st pend = some s') : Grows s s' := by
  obtain ⟨_, _, _, _, _, _, _, rfl⟩ := endRound_spec h
  exact grows_upd _ _ _
theorem grows_round (hx : GrowsX ex) {lim l : Nat} {args : List AV} {s s' : Hp} {v : AV} (h : round ex lim l args s = some (v, s')) : Grows s s' := by
  unfold Sim.round at h
  split at h
  · split at h
    · split at h
      · rename_i σ ha
        have h1 := hx _ _ _ _ _ _ ha
        split at h
        · have fin : ∀ {e : Ex} {τ : St} {id : Nat} {o : AO} {lim : Nat} {rd : Bool} {c : IC} {st : LoopState} {pend : Option IC} {b : AV}, ex lim rd c { t := σ.t, s := { h := upd σ.s.h id o, n := σ.s.n } } = some (e, τ) →
              (endRound l τ.s st pend).map (fun s => (b, s)) = some (v, s') → Grows s s' := by
            intro e τ id o lim rd c st pend b hb hend
            simp only [Option.map_eq_some_iff, Prod.mk.injEq] at hend
            obtain ⟨s2, hend, _, rfl⟩ := hend
            exact ((h1.trans (grows_upd _ id o)).trans (hx _ _ _ _ _ _ hb)).trans (grows_endRound hend)
          split at h
          · rename_i τ hb; exact fin hb h
          · rename_i τ hb; exact fin hb h
          · rename_i id τ hb; exact fin hb h
          · cases h
        · cases h
      · cases h
    · cases h
  · cases h
theorem grows_step (hx : GrowsX ex) {lim : Nat} {k : OpK} {xs : List AV} {s s' : Hp} {v : AV} (h : step T ex lim k xs s = some (v, s')) : Grows s s' := by
  unfold step at h
  split at h
  · exact grows_callF hx h
  · split at h
    · unfold callV at h
      split at h
      · exact grows_callF hx h
      · exact grows_round hx h
      · cases h
    · cases h
  · split at h
    · cases h
      exact grows_apply _ _
    · cases h
theorem grows_runOps (hx : GrowsX ex) {lim : Nat} : ∀ {os : List Sim.Op1} {σ σ' : St}, runOps T ex lim os σ = some σ' → Grows σ.s σ'.s
  | [], σ, σ', h => by
    simp only [runOps, Option.some.injEq] at h
    subst h
    exact .refl _
  | o :: os, σ, σ', h => by
    simp only [runOps] at h
    split at h
    · split at h
      · split at h
        · rename_i hst
          exact (grows_step hx hst).trans (grows_runOps hx h)
        · cases h
      · cases h
    · have := grows_runOps hx h
      exact this
theorem grows_runFoot (hx : GrowsX ex) {lim : Nat} {before : List Nat} : ∀ {os : List Sim.Op1} {j : Nat} {fs : List Foot} {σ σ' : St} {fs' : List Foot}, runFoot T ex lim before os j fs σ = some (σ', fs') → Grows σ.s σ'.s
  | [], j, fs, σ, σ', fs', h => by
    simp only [runFoot, Option.some.injEq, Prod.mk.injEq] at h
    obtain ⟨rfl, _⟩ := h
    exact .refl _
  | o :: os, j, fs, σ, σ', fs', h => by
    simp only [runFoot] at h
    split at h
    · split at h
      · split at h
        · split at h
          · have := grows_runFoot hx h
            exact this
          · cases h
        · split at h
          · rename_i hst
            exact (grows_step hx hst).trans (grows_runFoot hx h)
          · cases h
      · cases h
    · have := grows_runFoot hx h
      exact this
theorem grows_pop {σ : Hp} : Grows σ { h := popMark σ.h, n := σ.n } := ⟨fun h => h.pop, Nat.le_refl _⟩
theorem grows_mark {σ : Hp} : Grows σ { h := .mark :: σ.h, n := σ.n } := ⟨fun h => h, Nat.le_refl _⟩
theorem grows_exec (T : Tab) : ∀ d, GrowsX (exec T d)
  | 0, _, _, _, _, _, _, h => by simp [exec] at h
  | d + 1, lim, rd, c, σ, e, σ', h => by
    have ih := grows_exec T d
    unfold exec at h
    split at h
    · cases h; exact .refl _
    · simp only [Option.map_eq_some_iff, Prod.mk.injEq] at h
      obtain ⟨τ, h, _, rfl⟩ := h
      exact grows_runOps ih h
    · split at h
      · rename_i hf
        split at h
        · cases h
          exact grows_runFoot ih hf
        · cases h
      · cases h
    · split at h
      · rename_i ha
        exact (ih _ _ _ _ _ _ ha).trans (ih _ _ _ _ _ _ h)
      · exact ih _ _ _ _ _ _ h
    · split at h
      · exact ih _ _ _ _ _ _ h
      · cases h
    · split at h
      · rename_i ha
        split at h
        · cases h; exact ih _ _ _ _ _ _ ha
        · cases h; exact ih _ _ _ _ _ _ ha
      · exact ih _ _ _ _ _ _ h
    · split at h
      · rename_i ha
        exact ((grows_mark.trans (ih _ _ _ _ _ _ ha)).trans grows_pop).trans (ih _ _ _ _ _ _ h)
      · rename_i ha
        cases h
        exact (grows_mark.trans (ih _ _ _ _ _ _ ha)).trans grows_pop
      · cases h
    · split at h
      · cases h
      · split at h
        · split at h
          · rename_i hc
            have h1 := grows_callF ih hc
            have h2 : ∀ o : AO, Grows σ.s { h := .ob σ.s.n o :: σ.s.h, n := σ.s.n + 1 } := fun o => ⟨fun h => ⟨by simp, h⟩, by simp⟩
            have h3 := (h2 _).trans h1
            split at h
            · split at h
              · cases h
              · split at h
                · cases h
                · rename_i hend
                  have h4 := h3.trans (grows_endRound hend)
                  split at h <;> cases h <;> exact h4
            · cases h
          · cases h
        · cases h
    · cases h; exact .refl _
    · cases h; exact .refl _
end
end Go.Sim
set_option linter.unusedVariables false
set_option linter.unusedSimpArgs false
namespace Go.Sim
section
variable {T : Tab} {L L' : Nat → Option AO} {lim n n' : Nat} {k : OpK} {xs : List AV} {out : Out}
theorem rowsOf_local {esz : Nat} {x : AV} {r : List (List AV)} (h : rowsOf L esz x = some r) (hL : ∀ id ao, id ∈ idOf x → L id = some ao → L' id = some ao) : rowsOf L' esz x = some r := by
  unfold rowsOf at h
  split at h
  · simpa only [rowsOf] using h
  · simpa only [rowsOf] using h
  · simpa only [rowsOf] using h
  · simpa only [rowsOf] using h
  · split at h
    · rename_i hl
      simp only [rowsOf, hL _ _ (by simp [idOf]) hl]
      exact h
    · cases h
  · cases h
theorem entsOf_local {x : AV} {r : List (AV × AV)} (h : entsOf L x = some r) (hL : ∀ id ao, id ∈ idOf x → L id = some ao → L' id = some ao) : entsOf L' x = some r := by
  unfold entsOf at h
  split at h
  · exact h
  · split at h
    · rename_i hl
      simp only [entsOf, hL _ _ (by simp [idOf]) hl]
      exact h
    · cases h
  · exact h
  · cases h
theorem appendTo_local {ty : TypeId} {esz : Nat} {s : AV} {new : List (List AV)} {o : Out} (h : appendTo L lim n ty esz s new = some o) (hL : ∀ id ao, id ∈ idOf s → L id = some ao → L' id = some ao) : appendTo L' lim n ty esz s new = some o := by
  unfold appendTo at h
  split at h
  · simpa only [appendTo] using h
  · simpa only [appendTo] using h
  · simpa only [appendTo] using h
  · split at h
    · rename_i hl
      simp only [appendTo, hL _ _ (by simp [idOf]) hl]
      exact h
    · cases h
  · cases h
theorem sliceOp_local {esz : Nat} {lo hi mx : Bool} {x : AV} {bs : List AV} {v : AV} (h : sliceOp L esz lo hi mx (x :: bs) = some v) (hL : ∀ id ao, id ∈ idOf x → L id = some ao → L' id = some ao) : sliceOp L' esz lo hi mx (x :: bs) = some v := by
  have key : ∀ (L : Nat → Option AO), (∀ a b c d e f, x ≠ .sl a b c d e f) → sliceOp L esz lo hi mx (x :: bs) = sliceOp L' esz lo hi mx (x :: bs) := by
    intro L hx
    cases x <;> first | rfl | exact absurd rfl (hx _ _ _ _ _ _) | (rename_i y; cases y <;> first | rfl | (rename_i a b c; cases a <;> cases b <;> cases c <;> rfl))
  by_cases hx : ∃ a b c d e f, x = .sl a b c d e f
  · obtain ⟨z, id, ver, off, len, cap, rfl⟩ := hx
    cases hl : L id with
    | none =>
      exfalso
      simp only [sliceOp, hl] at h
      split at h <;> cases h
    | some ao =>
      have hl' := hL id ao (by simp [idOf]) hl
      simp only [sliceOp, hl] at h
      simp only [sliceOp, hl']
      exact h
  · rw [← key L (fun a b c d e f e' => hx ⟨a, b, c, d, e, f, e'⟩)]
    exact h
theorem app_local {ty : TypeId} {esz b : Nat} {zero : List Value} {zeros : Bool} {s x : AV} (h : doOp L lim n (.append ty esz b zero zeros) [s, x] = some out) (hx : ∀ id ao, id ∈ idOf x → L id = some ao → L' id = some ao) (hs : ∀ id ao, id ∈ idOf s → L id = some ao → L' id = some ao) :
    doOp L' lim n (.append ty esz b zero zeros) [s, x] = some out := by
  simp only [doOp] at h ⊢
  split at h
  · rename_i new hnew
    have hnew' : appRows L' esz zeros zero x = some new := by
      cases zeros
      · simp only [appRows, Bool.false_eq_true, if_false] at hnew ⊢
        exact rowsOf_local hnew hx
      · simp only [appRows, if_true] at hnew ⊢
        exact hnew
    split at h
    · rename_i o ho
      simp only [hnew', appendTo_local ho hs]
      exact h
    · cases h
  · cases h
theorem doOp_local (h : doOp L lim n k xs = some out) (hL : ∀ id ao, id ∈ (foot T k xs).rd ∨ id ∈ (foot T k xs).wr → L id = some ao → L' id = some ao) : doOp L' lim n k xs = some out := by
  unfold doOp at h
  split at h
  all_goals first | (simp only [doOp]; exact h) | skip
  · -- loadS
    split at h
    · simpa only [doOp] using h
    · split at h
      · rename_i hl
        simp only [doOp, hL _ _ (.inl (by simp [foot, idOf])) hl]
        exact h
      · cases h
    · cases h
  · -- loadA
    split at h
    · simpa only [doOp] using h
    · split at h
      · rename_i hl
        simp only [doOp, hL _ _ (.inl (by simp [foot, idOf])) hl]
        exact h
      · cases h
    · cases h
  · -- store
    split at h
    · rename_i hc
      split at h
      · rename_i hl
        simp only [doOp, hc, hL _ _ (.inr (by simp [foot, idOf])) hl]
        exact h
      · cases h
    · cases h
  · -- b2s
    split at h
    · rename_i hr
      simp only [doOp, rowsOf_local hr (fun id ao hid => hL id ao (.inl hid))]
      exact h
    · cases h
  · -- slc
    rename_i x
    simp only [Option.map_eq_some_iff] at h
    obtain ⟨v, hv, rfl⟩ := h
    cases xs with
    | nil => simp [sliceOp] at hv
    | cons x bs => simp only [doOp, sliceOp_local hv (fun id ao hid => hL id ao (.inl hid)), Option.map_some]
  · -- lookup
    split at h
    · rename_i hok
      split at h
      · rename_i es he
        simp only [doOp, hok, if_true, entsOf_local he (fun id ao hid => hL id ao (.inl hid))]
        exact h
      · cases h
    · cases h
  · -- mapup
    split at h
    · split at h
      · rename_i hl
        simp only [doOp, hL _ _ (.inr (by simp [foot, idOf])) hl]
        exact h
      · cases h
    · cases h
  · -- len
    split at h
    all_goals first | (simp only [doOp]; exact h) | skip
    · split at h
      · rename_i hl
        simp only [doOp, hL _ _ (.inl (by simp [foot, idOf])) hl]
        exact h
      · cases h
  · exact app_local h (fun id ao hid => hL id ao (.inl hid)) (fun id ao hid => hL id ao (.inr hid))
  · -- copy
    split at h
    · rename_i rows hr
      split at h
      · simp only [doOp, rowsOf_local hr (fun id ao hid => hL id ao (.inl hid))]
        exact h
      · simp only [doOp, rowsOf_local hr (fun id ao hid => hL id ao (.inl hid))]
        exact h
      · split at h
        · rename_i hl
          simp only [doOp, rowsOf_local hr (fun id ao hid => hL id ao (.inl hid)), hL _ _ (.inr (by simp [foot, idOf])) hl]
          exact h
        · cases h
      · cases h
    · cases h
  · -- clear
    split at h
    · simpa only [doOp] using h
    · simpa only [doOp] using h
    · split at h
      · rename_i hl
        simp only [doOp, hL _ _ (.inr (by simp [foot, idOf])) hl]
        exact h
      · cases h
    · cases h
theorem appendTo_up {ty : TypeId} {esz : Nat} {s : AV} {new : List (List AV)} {o : Out} {id : Nat} {ao : AO} (h : appendTo L lim n ty esz s new = some o) (hu : o.up = some (id, ao)) : id ∈ idOf s ∧ (L id).isSome = true := by
  unfold appendTo at h
  split at h
  · split at h <;> cases h <;> cases hu
  · split at h <;> cases h <;> cases hu
  · split at h <;> cases h
    cases hu
  · split at h
    · rename_i hl
      repeat' split at h
      all_goals cases h
      all_goals cases hu
      all_goals exact ⟨by simp [idOf], by rw [hl]; rfl⟩
    · cases h
  · cases h
theorem appendTo_n {ty : TypeId} {esz : Nat} {s : AV} {new : List (List AV)} {o : Out} (h : appendTo L lim n ty esz s new = some o) (hu : o.new = none) : appendTo L lim n' ty esz s new = some o := by
  unfold appendTo at h
  split at h
  · split at h
    · rename_i hc; cases h; simp only [appendTo, hc, if_true]
    · cases h; cases hu
  · split at h
    · rename_i hc; cases h; simp only [appendTo, hc, if_true]
    · cases h; cases hu
  · simpa only [appendTo] using h
  · split at h
    · rename_i hl
      simp only [appendTo, hl]
      split at h
      · rename_i hc
        rw [if_pos hc]
        split at h
        · rename_i h1; rw [if_pos h1]; exact h
        · rename_i h1
          rw [if_neg h1]
          split at h
          · exact h
          · split at h
            · rename_i h2; rw [if_pos h2]; exact h
            · cases h; cases hu
      · cases h
    · cases h
  · cases h
theorem app_out {ty : TypeId} {esz b : Nat} {zero : List Value} {zeros : Bool} {s x : AV} (h : doOp L lim n (.append ty esz b zero zeros) [s, x] = some out) :
    ∃ new, appRows L esz zeros zero x = some new ∧ appendTo L lim n ty esz s new = some out ∧ ∀ n', appendTo L lim n' ty esz s new = some out → doOp L lim n' (.append ty esz b zero zeros) [s, x] = some out := by
  simp only [doOp] at h
  split at h
  · rename_i new hnew
    split at h
    · rename_i o ho
      have : o = out := by
        split at h
        · split at h
          · cases h; rfl
          · cases h
        · cases h; rfl
      subst this
      refine ⟨new, hnew, ho, fun n' h' => ?_⟩
      simp only [doOp, hnew, h']
      exact h
    · cases h
  · cases h
theorem doOp_up {id : Nat} {ao : AO} (h : doOp L lim n k xs = some out) (hu : out.up = some (id, ao)) : id ∈ (foot T k xs).wr ∧ (L id).isSome = true := by
  have happ : ∀ ty esz b zero zeros s x, k = .append ty esz b zero zeros → xs = [s, x] → id ∈ (foot T k xs).wr ∧ (L id).isSome = true := by
    rintro ty esz b zero zeros s x rfl rfl
    obtain ⟨new, h1, h2, _⟩ := app_out h
    exact appendTo_up h2 hu
  unfold doOp at h
  split at h
  all_goals first | exact happ _ _ _ _ _ _ _ rfl rfl | skip
  all_goals clear happ
  all_goals (repeat' split at h)
  all_goals first
    | (cases h; done)
    | (simp only [Option.map_eq_some_iff] at h; obtain ⟨_, _, rfl⟩ := h; cases hu; done)
    | (cases h; cases hu; done)
    | (have hl := ‹L _ = some _›; cases h; cases hu; exact ⟨by simp [foot, idOf], by rw [hl]; rfl⟩)
theorem doOp_n (h : doOp L lim n k xs = some out) (hu : out.new = none) : doOp L lim n' k xs = some out := by
  have happ : ∀ ty esz b zero zeros s x, k = .append ty esz b zero zeros → xs = [s, x] → doOp L lim n' k xs = some out := by
    rintro ty esz b zero zeros s x rfl rfl
    obtain ⟨new, h1, h2, h3⟩ := app_out h
    exact h3 n' (appendTo_n h2 hu)
  unfold doOp at h
  split at h
  all_goals first | exact happ _ _ _ _ _ _ _ rfl rfl | skip
  all_goals clear happ
  all_goals first | (simp only [doOp]; exact h) | skip
  all_goals (repeat' split at h)
  all_goals first
    | (cases h; done)
    | (simp only [Option.map_eq_some_iff] at h; obtain ⟨_, _, rfl⟩ := h; cases hu; done)
    | (cases h; cases hu; done)
end
end Go.Sim
set_option linter.unusedVariables false
set_option linter.unusedSimpArgs false
namespace Go.Sim
theorem maskOf_bit {acc : List Nat} {i : Nat} : ∀ {es : List Edge}, (maskOf acc es).testBit i = true → ∃ e ∈ es, Region.binds .any e = true ∧ (i = e.on ∨ (acc.getD e.on 0).testBit i = true)
  | [], h => by simp [maskOf] at h
  | e :: es, h => by
    simp only [maskOf] at h
    split at h
    · rename_i hb
      simp only [Nat.testBit_or, Bool.or_eq_true] at h
      rcases h with (h | h) | h
      · rw [Nat.testBit_two_pow] at h
        exact ⟨e, by simp, hb, .inl (by simp at h; exact h.symm)⟩
      · exact ⟨e, by simp, hb, .inr h⟩
      · obtain ⟨e', h1, h2⟩ := maskOf_bit h
        exact ⟨e', by simp [h1], h2⟩
    · obtain ⟨e', h1, h2⟩ := maskOf_bit h
      exact ⟨e', by simp [h1], h2⟩
theorem masksFrom_spec : ∀ (os : List Oper) (acc : List Nat), ∃ tail, masksFrom acc os = acc ++ tail ∧ tail.length = os.length ∧
    ∀ k o, os[k]? = some o → (masksFrom acc os).getD (acc.length + k) 0 = maskOf ((masksFrom acc os).take (acc.length + k)) o.after.toList
  | [], acc => ⟨[], by simp [masksFrom], rfl, fun k o h => by simp at h⟩
  | o :: os, acc => by
    obtain ⟨tail, h1, h2, h3⟩ := masksFrom_spec os (acc ++ [maskOf acc o.after.toList])
    refine ⟨maskOf acc o.after.toList :: tail, by simp [masksFrom, h1], by simp [h2], fun k o' hk => ?_⟩
    cases k with
    | zero =>
      simp only [List.getElem?_cons_zero, Option.some.injEq] at hk
      subst hk
      simp only [masksFrom, h1, Nat.add_zero]
      simp
    | succ k =>
      have := h3 k o' (by simpa using hk)
      have e : (acc ++ [maskOf acc o.after.toList]).length + k = acc.length + (k + 1) := by simp; omega
      rw [e] at this
      exact this
theorem mask_closed {ops : List Oper} (hback : ∀ j o, ops[j]? = some o → ∀ e ∈ o.after.toList, Region.binds .any e = true → e.on < j) {D : Nat → Prop}
    (hD : ∀ i oi, D i → ops[i]? = some oi → ∀ e ∈ oi.after.toList, Region.binds .any e = true → D e.on) : ∀ (j : Nat) (o : Oper), ops[j]? = some o → (∀ e ∈ o.after.toList, Region.binds .any e = true → D e.on) →
      ∀ i, ((masksFrom [] ops).getD j 0).testBit i = true → D i := by
  intro j
  induction j using Nat.strongRecOn with
  | _ j ih =>
    intro o ho he i hi
    obtain ⟨tail, h1, h2, h3⟩ := masksFrom_spec ops []
    have h4 := h3 j o ho
    simp only [List.length_nil, Nat.zero_add] at h4
    rw [h4] at hi
    obtain ⟨e, h5, h6, h7⟩ := maskOf_bit hi
    rcases h7 with rfl | h7
    · exact he e h5 h6
    · have hlt := hback j o ho e h5 h6
      have hj : j < ops.length := (List.getElem?_eq_some_iff.1 ho).1
      have h8 : ((masksFrom [] ops).take j).getD e.on 0 = (masksFrom [] ops).getD e.on 0 := by
        simp only [List.getD_eq_getElem?_getD, List.getElem?_take, hlt, if_true]
      rw [h8] at h7
      have ho' : ops[e.on]? = some ops[e.on] := by simp
      exact ih e.on hlt _ ho' (fun e' h9 h10 => hD e.on _ (he e h5 h6) ho' e' h9 h10) i h7
theorem tmpsOK_spec {j : Nat} {o : Sim.Op1} {mask : Nat} : ∀ {ps : List Sim.Op1} {i0 : Nat}, tmpsOK j o mask ps i0 = true → ∀ k p, ps[k]? = some p → i0 + k < j →
    mask.testBit (i0 + k) = true ∨ ((∀ d, p.dst = some d → o.dst ≠ some d ∧ d ∉ o.reads) ∧ ∀ d, o.dst = some d → d ∉ p.reads)
  | [], i0, h, k, p, hk, _ => by simp at hk
  | q :: ps, i0, h, k, p, hk, hlt => by
    simp only [tmpsOK, Bool.and_eq_true, Bool.or_eq_true, decide_eq_true_eq] at h
    obtain ⟨h1, h2⟩ := h
    cases k with
    | zero =>
      simp only [List.getElem?_cons_zero, Option.some.injEq] at hk
      subst hk
      rw [Nat.add_zero] at hlt ⊢
      rcases h1 with (h1 | h1) | h1
      · omega
      · exact .inl h1
      · refine .inr ⟨fun d hd => ?_, fun d hd => ?_⟩
        · have := h1.1
          rw [hd] at this
          simpa using this
        · have := h1.2
          rw [hd] at this
          simpa using this
    | succ k =>
      have := tmpsOK_spec h2 k p (by simpa using hk) (by omega)
      have e : i0 + 1 + k = i0 + (k + 1) := by omega
      rwa [e] at this
def revF (ft : Nat → Foot) : Nat → List Foot
  | 0 => []
  | j + 1 => ft j :: revF ft j
theorem revF_congr {ft ft' : Nat → Foot} : ∀ {j : Nat}, (∀ i, i < j → ft i = ft' i) → revF ft j = revF ft' j
  | 0, _ => rfl
  | j + 1, h => by rw [revF, revF, h j (by omega), revF_congr (fun i hi => h i (by omega))]
theorem revF_length (ft : Nat → Foot) : ∀ j, (revF ft j).length = j
  | 0 => rfl
  | j + 1 => by simp [revF, revF_length ft j]
section
variable (T : Tab) (ex : Nat → Bool → IC → St → Option (Ex × St))
def Stp (lim mask m j : Nat) (o : Sim.Op1) (ft : Nat → Foot) (st : Nat → St) (v : Nat → AV) : Prop :=
  (st (j + 1)).t = put (st j).t o.dst (v j) ∧
  ((wanted (st j).t o.guard = false ∧ v j = .undef ∧ ft j = {} ∧ (st (j + 1)).s = (st j).s) ∨
   (wanted (st j).t o.guard = true ∧ ∃ xs, evs (st j).t o.xs = some xs ∧ (foot T o.k xs).all = 1 ∧ ft j = foot T o.k xs ∧ (st (j + 1)).s = (st j).s ∧
     ∃ s2, step T ex lim o.k xs { h := hide (unseen mask j (revF ft j)) (st j).s.h, n := (st j).s.n + (m - j) } = some (v j, s2)) ∨
   (wanted (st j).t o.guard = true ∧ ∃ xs, evs (st j).t o.xs = some xs ∧ (foot T o.k xs).all ≠ 1 ∧ ft j = { foot T o.k xs with al := List.range' (st j).s.n ((st (j + 1)).s.n - (st j).s.n) } ∧
     step T ex lim o.k xs (st j).s = some (v j, (st (j + 1)).s)))
variable {T ex}
theorem Stp.congr {lim mask m j : Nat} {o : Sim.Op1} {ft ft' : Nat → Foot} {st st' : Nat → St} {v v' : Nat → AV} (h : Stp T ex lim mask m j o ft st v) (hf : ∀ i, i ≤ j → ft' i = ft i) (h1 : st' j = st j) (h2 : st' (j + 1) = st (j + 1)) (h3 : v' j = v j) :
    Stp T ex lim mask m j o ft' st' v' := by
  unfold Stp at *
  rw [h1, h2, h3, hf j (Nat.le_refl _), revF_congr (ft := ft') (ft' := ft) (j := j) (fun i hi => hf i (by omega))]
  exact h
theorem trace_ok {lim : Nat} {before : List Nat} : ∀ (os : List Sim.Op1) (j : Nat) (σ : St) (ft0 : Nat → Foot) (σ' : St) (fs' : List Foot), runFoot T ex lim before os j (revF ft0 j) σ = some (σ', fs') →
    ∃ (st : Nat → St) (ft : Nat → Foot) (v : Nat → AV), (∀ i, i < j → ft i = ft0 i) ∧ st j = σ ∧ st (j + os.length) = σ' ∧ fs' = revF ft (j + os.length) ∧
      ∀ k o, os[k]? = some o → Stp T ex lim (before.getD (j + k) 0) (j + os.length) (j + k) o ft st v
  | [], j, σ, ft0, σ', fs', h => by
    simp only [runFoot, Option.some.injEq, Prod.mk.injEq] at h
    obtain ⟨rfl, rfl⟩ := h
    exact ⟨fun _ => σ, ft0, fun _ => .undef, fun _ _ => rfl, rfl, rfl, rfl, fun k o h => by simp at h⟩
  | o :: os, j, σ, ft0, σ', fs', h => by
    -- from the rest
    have rest : ∀ (σ1 : St) (f : Foot) (x : AV), runFoot T ex lim before os (j + 1) (f :: revF ft0 j) σ1 = some (σ', fs') →
        (∀ (st : Nat → St) (ft : Nat → Foot) (v : Nat → AV), st j = σ → st (j + 1) = σ1 → ft j = f → (∀ i, i < j → ft i = ft0 i) → v j = x → Stp T ex lim (before.getD j 0) (j + (os.length + 1)) j o ft st v) →
        ∃ (st : Nat → St) (ft : Nat → Foot) (v : Nat → AV), (∀ i, i < j → ft i = ft0 i) ∧ st j = σ ∧ st (j + (o :: os).length) = σ' ∧ fs' = revF ft (j + (o :: os).length) ∧
          ∀ k o', (o :: os)[k]? = some o' → Stp T ex lim (before.getD (j + k) 0) (j + (o :: os).length) (j + k) o' ft st v := by
      intro σ1 f x hr hs
      let ft1 : Nat → Foot := fun i => if i = j then f else ft0 i
      have hrev : f :: revF ft0 j = revF ft1 (j + 1) := by
        have h1 : ft1 j = f := if_pos rfl
        rw [revF, h1, revF_congr (ft := ft1) (ft' := ft0) (fun i hi => if_neg (by omega))]
      rw [hrev] at hr
      obtain ⟨st, ft, v, h1, h2, h3, h4, h5⟩ := trace_ok os (j + 1) σ1 ft1 σ' fs' hr
      have hft : ∀ i, i < j → ft i = ft0 i := fun i hi => (h1 i (by omega)).trans (if_neg (by omega))
      have hftj : ft j = f := (h1 j (by omega)).trans (if_pos rfl)
      have hlen : j + (o :: os).length = j + 1 + os.length := by simp; omega
      refine ⟨fun i => if i = j then σ else st i, ft, fun i => if i = j then x else v i, hft, if_pos rfl, ?_, ?_, ?_⟩
      · rw [hlen]; exact (if_neg (by omega)).trans h3
      · rw [hlen]; exact h4
      · intro k o' hk
        cases k with
        | zero =>
          simp only [List.getElem?_cons_zero, Option.some.injEq] at hk
          subst hk
          exact hs _ ft _ (if_pos rfl) ((if_neg (by omega)).trans h2) hftj hft (if_pos rfl)
        | succ k =>
          have h6 := h5 k o' (by simpa using hk)
          have e : j + 1 + k = j + (k + 1) := by omega
          rw [e, ← hlen] at h6
          exact h6.congr (fun _ _ => rfl) (if_neg (by omega)) (if_neg (by omega)) (if_neg (by omega))
    simp only [runFoot] at h
    split at h
    · rename_i hw
      split at h
      · rename_i xs hxs
        split at h
        · rename_i hall
          split at h
          · rename_i v s2 hst
            refine rest _ _ v h (fun st ft v' a1 a2 a3 a4 a5 => ?_)
            unfold Stp
            rw [a1, a2, a5, a3, revF_congr a4]
            refine ⟨rfl, .inr (.inl ⟨hw, xs, hxs, hall, rfl, rfl, s2, ?_⟩)⟩
            have e : j + (os.length + 1) - j = os.length + 1 := by omega
            rw [e]
            exact hst
          · cases h
        · rename_i hall
          split at h
          · rename_i v s2 hst
            refine rest _ _ v h (fun st ft v' a1 a2 a3 a4 a5 => ?_)
            unfold Stp
            rw [a1, a2, a5, a3]
            exact ⟨rfl, .inr (.inr ⟨hw, xs, hxs, hall, rfl, hst⟩)⟩
          · cases h
      · cases h
    · rename_i hw
      refine rest _ _ .undef h (fun st ft v' a1 a2 a3 a4 a5 => ?_)
      unfold Stp
      rw [a1, a2, a5, a3]
      exact ⟨rfl, .inl ⟨by simpa using hw, rfl, rfl, rfl⟩⟩
theorem okAgainst_spec {mask : Nat} {f : Foot} {ft : Nat → Foot} : ∀ {j : Nat}, drawOK.okAgainst mask f (revF ft j) j = true → ∀ i, i < j → mask.testBit i = true ∨ compat (ft i) f = true
  | 0, _, i, hi => by omega
  | j + 1, h, i, hi => by
    simp only [revF, drawOK.okAgainst, Nat.add_sub_cancel, Bool.and_eq_true, Bool.or_eq_true] at h
    by_cases e : i = j
    · subst e; exact h.1
    · exact okAgainst_spec h.2 i (by omega)
theorem drawOK_spec {before : List Nat} {ft : Nat → Foot} : ∀ {m : Nat}, drawOK before (revF ft m) m = true → ∀ j, j < m → ∀ i, i < j → (before.getD j 0).testBit i = true ∨ compat (ft i) (ft j) = true
  | 0, _, j, hj => by omega
  | m + 1, h, j, hj => by
    simp only [revF, drawOK, Nat.add_sub_cancel, Bool.and_eq_true] at h
    intro i hi
    by_cases e : j = m
    · subst e; exact okAgainst_spec h.1 i hi
    · exact drawOK_spec h.2 j (by omega) i hi
end
end Go.Sim
set_option linter.unusedVariables false
set_option linter.unusedSimpArgs false
namespace Go.Sim
section
variable {P : Program} {T : Tab} {lim n : Nat} {g : Gh} {w : World} {r : Option Nat}
def DrawOK (P : Program) (T : Tab) (ex : Nat → Bool → IC → St → Option (Ex × St)) : Prop :=
  ∀ (lim : Nat) (ops : Array Oper) (ios : List Sim.Op1) (σ σ' : St) (fs : List Foot) (id : Nat), mapO (compOper P ops.toList) ops.toList = some ios → regOK ops.toList ios (masksFrom [] ops.toList) = true →
    runFoot T ex lim (masksFrom [] ops.toList) ios 0 [] σ = some (σ', fs) → drawOK (masksFrom [] ops.toList) fs fs.length = true →
    ∀ (r : Option Nat) (g : Gh) (a : Act) (w : World) (n base : Nat), TR g σ.t a.tmps.toList → Inv P g w σ.s → lim ≤ σ.s.n → base ≤ w.heap.size → Marks base g w a.defers →
      (Code.region id ops true).wpIn (FW r) n P (PostX P base lim g w σ.s .normal σ') a w
theorem After.trans {base : Nat} {s s' s'' : Hp} {t t' : List AV} {g' g'' : Gh} {a' a'' : Act} {w' w'' : World} (h : After P base lim g w s t s' g' a' w') (k : After P base lim g' w' s' t' s'' g'' a'' w'') :
    After P base lim g w s t' s'' g'' a'' w'' := ⟨k.t, k.inv, h.ext.trans k.ext, Nat.le_trans h.n k.n, k.marks⟩
theorem Inv.pop {s : Hp} (h : Inv P g w s) : Inv P g w { h := popMark s.h, n := s.n } :=
  ⟨fun id ao ha => h.H id ao (look_pop h.wf ha), h.W, h.dom, h.wf.pop⟩
theorem Inv.mark {s : Hp} (h : Inv P g w s) : Inv P g w { h := .mark :: s.h, n := s.n } := ⟨h.H, h.W, h.dom, h.wf⟩
theorem then_post {base : Nat} {s s' : Hp} {t : List AV} {g' : Gh} {e : Ex} {σ' : St} {e' : Exit} {a' a'' : Act} {w' w'' : World} (hA : After P base lim g w s t s' g' a' w') (h : PostX P base lim g' w' s' e σ' e' a'' w'') : PostX P base lim g w s e σ' e' a'' w'' := by
  obtain ⟨h1, g'', h2⟩ := h
  exact ⟨h1, g'', hA.trans h2⟩
theorem loop_ok {D : Nat} (hall : ∀ d, d < D → ExOK P (exec T d)) {x : Code} {cx : IC} (hx : comp P x = some cx) {rd : Bool} {r : Option Nat} (hr : rd = r.isSome) {e : Ex} {σ' : St} :
    ∀ (d : Nat), d ≤ D → ∀ (σ : St) (g : Gh) (a : Act) (w : World) (n base : Nat) (Q : Exit → Act → World → Prop), exec T d lim rd (.loop cx) σ = some (e, σ') → TR g σ.t a.tmps.toList → Inv P g w σ.s → lim ≤ σ.s.n → base ≤ w.heap.size → Marks base g w a.defers →
      (∀ e' a' w', PostX P base lim g w σ.s e σ' e' a' w' → Q e' a' w') → Code.roundsIn (FW r) n P x Q d a w
  | 0, _, σ, g, a, w, n, base, Q, h, _, _, _, _, _, _ => by simp [exec] at h
  | d + 1, hd, σ, g, a, w, n, base, Q, h, ht, hI, hl, hb, hm, hQ => by
    simp only [exec] at h
    rw [roundsIn_succ]
    split at h
    · rename_i τ ha
      refine wpIn_mono (hall d (by omega) lim rd cx _ .normal τ ha x hx r hr g a w n base ht hI.mark hl hb hm) ?_
      rintro e1 a1 w1 ⟨rfl, g1, hA⟩
      refine loop_ok hall hx hr d (by omega) _ g1 a1 w1 n base Q h hA.t hA.inv.pop (Nat.le_trans hl hA.n) (Nat.le_trans hb hA.ext.size) hA.marks ?_
      intro e2 a2 w2 h2
      exact hQ _ _ _ (then_post (s' := { h := popMark τ.s.h, n := τ.s.n }) ⟨hA.t, hA.inv.pop, hA.ext, hA.n, hA.marks⟩ h2)
    · rename_i e0 τ hne ha
      cases h
      refine wpIn_mono (hall d (by omega) lim rd cx _ e τ ha x hx r hr g a w n base ht hI.mark hl hb hm) ?_
      rintro e1 a1 w1 ⟨rfl, g1, hA⟩
      cases e with
      | normal => exact (hne rfl).elim
      | ret => exact hQ _ _ _ ⟨rfl, g1, hA.t, hA.inv.pop, hA.ext, hA.n, hA.marks⟩
      | exit id => exact hQ _ _ _ ⟨rfl, g1, hA.t, hA.inv.pop, hA.ext, hA.n, hA.marks⟩
    · cases h
theorem Inv.other {s : Hp} (hI : Inv P g w s) (o : Obj) : Inv P g (w.alloc o) s ∧ Ext lim g g w (w.alloc o) := by
  have hG : ∀ b o', g.G b = some o' → b < w.heap.size := fun b o' h => (Array.getElem?_eq_some_iff.1 (hI.W.still b o' h)).1
  refine ⟨⟨fun id ao ha => (hI.H id ao ha).mono (.refl g) rfl (fun loc hl => heap_alloc_lt w o (hI.W.lt id loc hl)), ⟨fun b o' h => ?_, fun id loc h => ?_, hI.W.out, hI.W.inj⟩, hI.dom, hI.wf⟩,
    ⟨.refl g, by simp, fun b hb _ => heap_alloc_lt w o hb, fun id loc h => .inl ⟨loc, h, rfl⟩, fun _ _ => rfl, rfl, rfl, rfl, fun _ _ h => .inl h⟩⟩
  · rw [heap_alloc_lt w o (hG b o' h)]
    exact hI.W.still b o' h
  · have := hI.W.lt id loc h
    simp
    omega
theorem Marks.fresh {base : Nat} : ∀ {ds : List Deferred}, Marks base g w ds → ∀ d ∈ ds, d.target ≠ .collected w.heap.size
  | [], _, d, hd => by simp at hd
  | d0 :: ds, ⟨⟨r, h1, h2, h3, _, _, _⟩, h7⟩, d, hd => by
    rcases List.mem_cons.1 hd with rfl | hd
    · intro e
      rw [h1] at e
      cases e
      have := (Array.getElem?_eq_some_iff.1 h3).1
      omega
    · exact Marks.fresh h7 d hd
theorem endLoop_run {b : Nat} {R : Loop} (hb : w.heap[b]? = some (.loop R)) (hr : R.state ≠ .busy) : (Instr.endLoop b).run P w = .ok R.pending { w with heap := w.heap.setIfInBounds b (.loop { R with state := .exhausted }) } := by
  simp [Instr.endLoop, getLoop_run hb, setObj_loop hb, hr]
def exOf : Option IC → Option Ex
  | none => some .normal
  | some .ret => some .ret
  | some (.exit id) => some (.exit id)
  | _ => none
theorem range_ok {ex : Nat → Bool → IC → St → Option (Ex × St)} (hex : ExOK P ex) (hT : TabOK P T) {f : Operand} {of : IX} {ps : Array Tmp} {x y : Code} {cx cy : IC} (hf : opnd f = some of) (hx : comp P x = some cx) (hy : comp P y = some cy)
    {σ : St} {gf : FuncId} {first cap : List AV} (hev : of.ev σ.t = some (.fn (.func gf) first cap)) {v : AV} {s : Hp}
    (hcall : callF T ex lim gf (first ++ [.fn (.yield σ.s.n) [] []] ++ cap) { h := .ob σ.s.n (.loop .ready none σ.t ps.toList cx cy) :: σ.s.h, n := σ.s.n + 1 } = some (v, s))
    {st : LoopState} {pend : Option IC} {tm : List AV} {pm : List Nat} {as bd : IC} (hL : look s.h σ.s.n = some (.loop st pend tm pm as bd)) (hst : st ≠ .busy) {s' : Hp} (hend : endRound σ.s.n s .exhausted pend = some s')
    {e : Ex} (he : exOf pend = some e)
    {a : Act} {base : Nat} (ht : TR g σ.t a.tmps.toList) (hI : Inv P g w σ.s) (hl : lim ≤ σ.s.n) (hb : base ≤ w.heap.size) (hm : Marks base g w a.defers) :
    (Code.rangeFunc f ps x y).wpIn (FW none) n P (PostX P base lim g w σ.s e { t := σ.t, s := s' }) a w := by
  refine wpIn_rangeFunc (fun fid _ => ?_)
  have hfv := opnd_ok ht hf hev
  generalize hV : a.eval f = V at hfv
  cases hfv with
  | @fn _ _ _ _ F C l1 l2 v1 v2 =>
    have hifn : ∃ ifn, T gf = some ifn := by
      unfold callF at hcall
      split at hcall
      · cases hcall
      · rename_i ifn hi; exact ⟨ifn, hi⟩
    obtain ⟨ifn, hifn⟩ := hifn
    obtain ⟨fn, hfn, hcf⟩ := hT gf ifn hifn
    obtain ⟨⟨cd, hbody⟩, hname⟩ := compFn_spec hcf
    have hname' : ¬ fn.name = "runtime.NumGoroutine" := by simpa using hname
    let w1 := w.alloc (.deferred (some []))
    let R : Loop := { state := .ready, pending := none, fn := fid, tmps := a.tmps, params := ps, assign := x, body := y, defers := w.heap.size }
    let w2 := w1.alloc (.loop R)
    have hw1 : w1.heap.size = w.heap.size + 1 := by simp [w1]
    obtain ⟨hI1, hE1⟩ := hI.other (lim := lim) (.deferred (some []))
    have hn : g.ι σ.s.n = none := by
      cases h : g.ι σ.s.n with
      | none => rfl
      | some l => have := hI.dom σ.s.n (by rw [h]; simp); omega
    let loc : Loc := { b := w.heap.size + 1, esz := 1, ct := 1, ver := 0 }
    obtain ⟨hE2, hW2⟩ := ext_new (lim := lim) hI1.W (.loop R) σ.s.n loc hw1.symm hn hl
    let g2 : Gh := { G := g.G, ι := fun id => if id = σ.s.n then some loc else g.ι id }
    have hi2 : g2.ι σ.s.n = some loc := if_pos rfl
    have hI2 : Inv P g2 w2 { h := .ob σ.s.n (.loop .ready none σ.t ps.toList cx cy) :: σ.s.h, n := σ.s.n + 1 } := by
      refine ⟨fun id ao ha => ?_, hW2, fun id h => ?_, ⟨by simp, hI.wf⟩⟩
      · simp only [look] at ha
        split at ha
        · rename_i e
          subst e
          cases ha
          refine ⟨loc, R, hi2, rfl, ?_, rfl, rfl, ht.mono (hE1.le.trans hE2.le), by simp [R], hx, hy⟩
          show w2.heap[w.heap.size + 1]? = _
          rw [← hw1]
          exact heap_alloc_new w1 _
        · rename_i e
          refine (hI1.H id ao ha).mono hE2.le ?_ (fun l hl => heap_alloc_lt w1 _ (hI1.W.lt id l hl))
          show (if id = σ.s.n then some loc else g.ι id) = g.ι id
          rw [if_neg (fun h => e h.symm)]
      · show id < σ.s.n + 1
        by_cases e : id = σ.s.n
        · omega
        · have h : g.ι id ≠ none := by
            have : g2.ι id = g.ι id := if_neg e
            rwa [this] at h
          have := hI.dom id h
          omega
    have hF : TR g first F.toList := ⟨by simpa using l1, fun i x y hx hy => v1 i x y hx (by simpa using hy)⟩
    have hC : TR g cap C.toList := ⟨by simpa using l2, fun i x y hx hy => v2 i x y hx (by simpa using hy)⟩
    have hle2 : g.le g2 := hE1.le.trans hE2.le
    have hargs : TR g2 (first ++ [.fn (.yield σ.s.n) [] []] ++ cap) (F ++ #[Value.func (.yield (w.heap.size + 1)) #[] #[]] ++ C).toList := by
      have := ((hF.mono hle2).app (.cons (VR.yield (l := σ.s.n) (b := w.heap.size + 1) hi2 (fun _ => rfl)) (.nil g2))).app (hC.mono hle2)
      simpa using this
    have hmk : Marks base g2 w2 ({ target := .collected w.heap.size, args := #[] } :: a.defers) := by
      refine ⟨⟨w.heap.size, rfl, hb, ?_, fun id l h => ?_, ?_, hm.fresh⟩, (hm.ext hE1).ext hE2⟩
      · have h1 : w1.heap[w.heap.size]? = some (.deferred (some [])) := heap_alloc_new w _
        exact (heap_alloc_lt w1 _ (by omega)).trans h1
      · by_cases e : id = σ.s.n
        · have h : (if id = σ.s.n then some loc else g.ι id) = some l := h
          rw [if_pos e] at h
          cases h
          show w.heap.size + 1 ≠ w.heap.size
          omega
        · have h : (if id = σ.s.n then some loc else g.ι id) = some l := h
          rw [if_neg e] at h
          have := hI.W.lt id l h
          omega
      · show g.G w.heap.size = none
        cases hG : g.G w.heap.size with
        | none => rfl
        | some o =>
          have := (Array.getElem?_eq_some_iff.1 (hI.W.still _ o hG)).1
          omega
    refine ⟨w.heap.size + 1, [{ target := .collected w.heap.size, args := #[] }], w2, { target := .fn (.func gf) C, args := F ++ #[Value.func (.yield (w.heap.size + 1)) #[] #[]] }, w2, gf, F ++ #[Value.func (.yield (w.heap.size + 1)) #[] #[]] ++ C, w2, ?_, ?_, fun _ _ => trivial, ?_, fun h => (by cases h), ?_⟩
    · simp only [FW, Instr.enterLoop]
      simp [newObj, Sem.run, w2, w1, R]
    · have hcst : a.eval (.const (.func (.yield (w.heap.size + 1)) #[] #[])) = .func (.yield (w.heap.size + 1)) #[] #[] := rfl
      simp [resolve, rangeCall, hV, Deferred.ofValue, hcst]
    · simp [invoke, callFunc, hfn, hname', hbody]
    · refine CallsIn.mono (callF_ok hex hT hcall hargs hI2 (by show lim ≤ σ.s.n + 1; omega)) ?_
      rintro e' w' ⟨V', g3, rfl, k1, k2, k3, k4⟩
      obtain ⟨loc3, R3, m1, m2, m3, m4, m5, m6, m7, m8, m9⟩ := loop_rec k2 hL
      have hlb : loc3 = loc := by
        obtain ⟨loc', q1, q2, q3⟩ := k3.le.ι σ.s.n loc hi2
        rw [m1] at q1
        cases q1
        exact q3 m2.symm
      subst hlb
      obtain ⟨_, _, _, _, _, _, hL', rfl⟩ := endRound_spec hend
      rw [hL] at hL'
      cases hL'
      obtain ⟨hI4, hE4⟩ := inv_loop (lim := lim) (st' := .exhausted) (pend' := pend) (R' := { R3 with state := .exhausted }) k2 hL hl m1 m3 rfl m5 rfl rfl rfl rfl
      refine ⟨_, _, endLoop_run m3 (by rw [m4]; exact hst), ?_⟩
      have hext : Ext lim g g3 w { w' with heap := w'.heap.setIfInBounds loc.b (.loop { R3 with state := .exhausted }) } := ((hE1.trans hE2).trans k3).trans hE4
      have hA : After P base lim g w σ.s σ.t { h := upd s.h σ.s.n (.loop .exhausted pend tm pm as bd), n := s.n } g3 { a with defers := [{ target := .collected w.heap.size, args := #[] }] ++ a.defers } { w' with heap := w'.heap.setIfInBounds loc.b (.loop { R3 with state := .exhausted }) } :=
        ⟨ht.mono hext.le, hI4, hext, by have : σ.s.n + 1 ≤ s.n := k4; show σ.s.n ≤ s.n; omega, (hmk.ext k3).ext hE4⟩
      unfold exOf at he
      split at he
      · cases he
        have : R3.pending = none := m5
        rw [this] at hA ⊢
        exact ⟨rfl, g3, hA⟩
      · cases he
        have : R3.pending = some .ret := m5
        rw [this] at hA ⊢
        exact wpIn_ret ⟨rfl, g3, hA⟩
      · cases he
        have : R3.pending = some (.exit _) := m5
        rw [this] at hA ⊢
        exact wpIn_exit ⟨rfl, g3, hA⟩
      · cases he
theorem exec_all (hT : TabOK P T) (hD : ∀ d, ExOK P (exec T d) → DrawOK P T (exec T d)) : ∀ D d, d < D → ExOK P (exec T d)
  | 0, d, h => by omega
  | D + 1, d, hdD => by
    have hall := exec_all hT hD D
    by_cases hlt : d < D
    · exact hall d hlt
    have hdd : d = D := by omega
    subst hdd
    cases d with
    | zero => exact fun lim rd c σ e σ' h => by simp [exec] at h
    | succ d =>
    have ih := hall d (by omega)
    intro lim rd c σ e σ' h code hc r hr g a w n base ht hI hl hb hm
    cases code with
    | skip =>
      simp only [comp, Option.some.injEq] at hc
      subst hc
      simp only [exec, Option.some.injEq, Prod.mk.injEq] at h
      obtain ⟨rfl, rfl⟩ := h
      exact wpIn_skip ⟨rfl, g, ht, hI, .refl lim g w, Nat.le_refl _, hm⟩
    | region id ops dr =>
      simp only [comp] at hc
      split at hc
      · cases hc
      · rename_i ios hios
        split at hc
        · rename_i hdr
          split at hc
          · rename_i hreg
            cases hc
            subst hdr
            simp only [exec] at h
            split at h
            · rename_i τ fs hf
              split at h
              · rename_i hdok
                cases h
                exact hD d ih lim ops ios σ σ' fs id hios hreg hf hdok r g a w n base ht hI hl hb hm
              · cases h
            · cases h
          · cases hc
        · rename_i hdr
          cases hc
          have hdr : dr = false := by simpa using hdr
          subst hdr
          simp only [exec, Option.map_eq_some_iff, Prod.mk.injEq] at h
          obtain ⟨τ, h, rfl, rfl⟩ := h
          refine wpIn_region ?_
          rw [List.range_eq_range', ← Array.length_toList]
          exact runOps_ok ih hT ops.toList ios 0 σ τ g w a hios (by simp) h ht hI hl hm (fun g' a' w' hA => ⟨rfl, g', hA⟩)
    | seq x y =>
      simp only [comp] at hc
      split at hc
      · rename_i cx cy hx hy
        cases hc
        simp only [exec] at h
        refine wpIn_seq ?_
        split at h
        · rename_i τ ha
          refine wpIn_mono (ih lim rd cx σ .normal τ ha x hx r hr g a w n base ht hI hl hb hm) ?_
          rintro e1 a1 w1 ⟨rfl, g1, hA⟩
          refine wpIn_mono (ih lim rd cy τ e σ' h y hy r hr g1 a1 w1 n base hA.t hA.inv (Nat.le_trans hl hA.n) (Nat.le_trans hb hA.ext.size) hA.marks) ?_
          intro e2 a2 w2 h2
          exact then_post hA h2
        · rename_i hne
          refine wpIn_mono (ih lim rd cx σ e σ' h x hx r hr g a w n base ht hI hl hb hm) ?_
          rintro e1 a1 w1 ⟨rfl, g1, hA⟩
          cases e with
          | normal => exact absurd h (hne _)
          | ret => exact ⟨rfl, g1, hA⟩
          | exit id => exact ⟨rfl, g1, hA⟩
      · cases hc
    | cond c x y =>
      simp only [comp] at hc
      split at hc
      · rename_i oc cx cy ho hx hy
        cases hc
        simp only [exec] at h
        split at h
        · rename_i t hev
          have hv := (opnd_ok ht ho hev).bool
          refine wpIn_cond hv ?_
          cases t
          · exact ih lim rd cy σ e σ' h y hy r hr g a w n base ht hI hl hb hm
          · exact ih lim rd cx σ e σ' h x hx r hr g a w n base ht hI hl hb hm
        · cases h
      · cases hc
    | block id x =>
      simp only [comp, Option.map_eq_some_iff] at hc
      obtain ⟨cx, hx, rfl⟩ := hc
      simp only [exec] at h
      refine wpIn_block ?_
      split at h
      · rename_i i τ ha
        refine wpIn_mono (ih lim rd cx σ (.exit i) τ ha x hx r hr g a w n base ht hI hl hb hm) ?_
        rintro e1 a1 w1 ⟨rfl, g1, hA⟩
        simp only [Ex.toExit, Exit.inBlock]
        split at h
        · rename_i hi
          cases h
          rw [if_pos hi]
          exact ⟨rfl, g1, hA⟩
        · rename_i hi
          cases h
          rw [if_neg hi]
          exact ⟨rfl, g1, hA⟩
      · rename_i hne
        refine wpIn_mono (ih lim rd cx σ e σ' h x hx r hr g a w n base ht hI hl hb hm) ?_
        rintro e1 a1 w1 ⟨rfl, g1, hA⟩
        cases e with
        | normal => exact ⟨rfl, g1, hA⟩
        | ret => exact ⟨rfl, g1, hA⟩
        | exit id => exact absurd h (hne _ _)
    | loop x =>
      simp only [comp, Option.map_eq_some_iff] at hc
      obtain ⟨cx, hx, rfl⟩ := hc
      exact wpIn_loop_rounds (d + 1) (loop_ok (D := d + 1) hall hx hr (d + 1) (Nat.le_refl _) σ g a w n base _ h ht hI hl hb hm (fun _ _ _ h => h))
    | rangeFunc f ps x y =>
      simp only [comp] at hc
      split at hc
      · rename_i of cx cy ho hx hy
        cases hc
        simp only [exec] at h
        split at h
        · cases h
        · rename_i hrd
          have hrn : r = none := by cases r with
            | none => rfl
            | some l => simp at hr; exact absurd hr hrd
          subst hrn
          split at h
          · rename_i gf first cap hev
            split at h
            · rename_i v s hcall
              split at h
              · rename_i st pend tm pm as bd hL
                split at h
                · cases h
                · rename_i hst
                  split at h
                  · cases h
                  · rename_i s' hend
                    split at h
                    · cases h
                      exact range_ok ih hT ho hx hy hev hcall hL hst hend rfl ht hI hl hb hm
                    · cases h
                      exact range_ok ih hT ho hx hy hev hcall hL hst hend rfl ht hI hl hb hm
                    · cases h
                      exact range_ok ih hT ho hx hy hev hcall hL hst hend rfl ht hI hl hb hm
                    · cases h
              · cases h
            · cases h
          · cases h
      · cases hc
    | exit id =>
      simp only [comp, Option.some.injEq] at hc
      subst hc
      simp only [exec, Option.some.injEq, Prod.mk.injEq] at h
      obtain ⟨rfl, rfl⟩ := h
      exact wpIn_exit ⟨rfl, g, ht, hI, .refl lim g w, Nat.le_refl _, hm⟩
    | ret =>
      simp only [comp, Option.some.injEq] at hc
      subst hc
      simp only [exec, Option.some.injEq, Prod.mk.injEq] at h
      obtain ⟨rfl, rfl⟩ := h
      exact wpIn_ret ⟨rfl, g, ht, hI, .refl lim g w, Nat.le_refl _, hm⟩
    | _ => simp [comp] at hc
theorem exec_ok (hT : TabOK P T) (hD : ∀ d, ExOK P (exec T d) → DrawOK P T (exec T d)) (d : Nat) : ExOK P (exec T d) := exec_all hT hD (d + 1) d (by omega)
end
end Go.Sim
set_option linter.unusedVariables false
set_option linter.unusedSimpArgs false
namespace Go.Sim
theorem foot_al (T : Tab) (k : OpK) (xs : List AV) : (foot T k xs).al = [] := by
  unfold foot
  split <;> rfl
theorem foot_all (T : Tab) (k : OpK) (xs : List AV) : (foot T k xs).all ≤ 2 ∧ ((foot T k xs).all ≠ 0 → (foot T k xs).rd = [] ∧ (foot T k xs).wr = []) := by
  unfold foot
  split <;> first
    | exact ⟨by simp, fun h => absurd rfl h⟩
    | (refine ⟨?_, fun _ => ⟨rfl, rfl⟩⟩; (repeat' split) <;> simp_all)
theorem foot_call {T : Tab} {k : OpK} {xs : List AV} (h : (foot T k xs).all = 0) : (∀ f, k ≠ .callF f) ∧ k ≠ .callV := by
  constructor
  · rintro f rfl
    simp only [foot] at h
    split at h
    · split at h <;> cases h
    · cases h
  · rintro rfl
    cases xs with
    | nil => simp [foot] at h
    | cons x xs =>
      simp only [foot] at h
      split at h
      · split at h
        · split at h <;> cases h
        · cases h
      · cases h
theorem step_plain {T : Tab} {ex : Nat → Bool → IC → St → Option (Ex × St)} {lim : Nat} {k : OpK} {xs : List AV} {s s' : Hp} {v : AV} (h : step T ex lim k xs s = some (v, s')) (h0 : (foot T k xs).all = 0) :
    ∃ out, doOp (look s.h) lim s.n k xs = some out ∧ v = out.v ∧ s' = out.apply s := by
  obtain ⟨h1, h2⟩ := foot_call h0
  unfold step at h
  split at h
  · exact absurd rfl (h1 _)
  · exact absurd rfl h2
  · split at h
    · rename_i o ho
      cases h
      exact ⟨o, ho, rfl, rfl⟩
    · cases h
theorem look_apply {out : Out} {s : Hp} (hup : ∀ i ob, out.up = some (i, ob) → (look s.h i).isSome = true) (id : Nat) : look (out.apply s).h id = out.after (look s.h) s.n id := by
  have hb : look (match out.up with | some (i, ob) => upd s.h i ob | none => s.h) id = out.base (look s.h) id := by
    unfold Out.base
    cases hu : out.up with
    | none => rfl
    | some p =>
      obtain ⟨i, ob⟩ := p
      simp only [look_upd]
      have := hup i ob hu
      by_cases e : id = i
      · subst e; simp [this]
      · simp [e]
  unfold Out.apply Out.after
  cases hn : out.new with
  | none => exact hb
  | some ob =>
    simp only [look]
    by_cases e : s.n = id
    · rw [if_pos e, if_pos e.symm]
    · rw [if_neg e, if_neg (fun h => e h.symm)]; exact hb
theorem apply_n (out : Out) (s : Hp) : (out.apply s).n = if out.new.isSome then s.n + 1 else s.n := by
  unfold Out.apply
  cases out.new <;> rfl
theorem compat_spec {i j : Foot} (h : compat i j = true) : i.all + j.all ≤ 1 ∧ (∀ x ∈ i.wr, x ∉ j.rd ∧ x ∉ j.wr) ∧ (∀ x ∈ j.wr, x ∉ i.rd) ∧ (∀ x ∈ i.al, x ∉ j.rd ∧ x ∉ j.wr) ∧ (i.all = 0 ∨ j.wr = []) ∧ (j.all = 0 ∨ i.wr = []) := by
  simp only [compat, Bool.and_eq_true, decide_eq_true_eq, List.all_eq_true, Bool.not_eq_true', Bool.or_eq_true, beq_iff_eq, List.isEmpty_iff, List.contains_eq_mem, decide_eq_false_iff_not] at h
  obtain ⟨⟨⟨⟨⟨h1, h2⟩, h3⟩, h4⟩, h5⟩, h6⟩ := h
  exact ⟨h1, h2, h3, h4, h5, h6⟩
theorem unseen_mem {mask : Nat} {ft : Nat → Foot} {id : Nat} : ∀ {j : Nat}, ∀ i, i < j → mask.testBit i = false → id ∈ (ft i).al → id ∈ unseen mask j (revF ft j)
  | 0, i, hi, _, _ => by omega
  | j + 1, i, hi, hm, hid => by
    simp only [revF, unseen, Nat.add_sub_cancel, List.mem_append]
    by_cases e : i = j
    · subst e
      left
      rw [hm]
      simpa using hid
    · exact .inr (unseen_mem i (by omega) hm hid)
theorem evs_congr {l l' : List AV} : ∀ {xs : List IX}, (∀ t, .t t ∈ xs → l[t]? = l'[t]?) → evs l xs = evs l' xs
  | [], _ => rfl
  | x :: xs, h => by
    have h1 : x.ev l = x.ev l' := by
      cases x with
      | t i => exact h i (by simp)
      | c v => rfl
    simp only [evs, h1, evs_congr (xs := xs) (fun t ht => h t (by simp [ht]))]
theorem wanted_congr {l l' : List AV} {gd : Option (Nat × Bool)} (h : ∀ i b, gd = some (i, b) → l[i]? = l'[i]?) : wanted l gd = wanted l' gd := by
  cases gd with
  | none => rfl
  | some p =>
    obtain ⟨i, b⟩ := p
    simp only [Sim.wanted, h i b rfl]
theorem put_length (l : List AV) (d : Option Nat) (v : AV) : (put l d v).length = l.length := by
  cases d <;> simp [put]
theorem put_get_ne {l : List AV} {d : Option Nat} {v : AV} {t : Nat} (h : d ≠ some t) : (put l d v)[t]? = l[t]? := by
  cases d with
  | none => rfl
  | some i => simp only [put, List.getElem?_set]; rw [if_neg (fun e => h (by rw [e]))]
theorem put_comm {l : List AV} {d d' : Option Nat} {v v' : AV} (h : ∀ t, d = some t → d' ≠ some t) : put (put l d v) d' v' = put (put l d' v') d v := by
  cases d with
  | none => rfl
  | some i =>
    cases d' with
    | none => rfl
    | some j => exact List.set_comm _ _ (fun e => h i rfl (by rw [e]))
structure Reg (P : Program) (T : Tab) (ex : Nat → Bool → IC → St → Option (Ex × St)) (lim : Nat) (ops : Array Oper) (ios : List Sim.Op1) (st : Nat → St) (ft : Nat → Foot) (v : Nat → AV) : Prop where
  comp : mapO (compOper P ops.toList) ops.toList = some ios
  back : ∀ j o, ops.toList[j]? = some o → ∀ e ∈ o.after.toList, Region.binds .any e = true → e.on < j
  tmps : ∀ j o, ios[j]? = some o → ∀ i p, i < j → ios[i]? = some p → ((masksFrom [] ops.toList).getD j 0).testBit i = true ∨ ((∀ d, p.dst = some d → o.dst ≠ some d ∧ d ∉ o.reads) ∧ ∀ d, o.dst = some d → d ∉ p.reads)
  step : ∀ j o, ios[j]? = some o → Stp T ex lim ((masksFrom [] ops.toList).getD j 0) ios.length j o ft st v
  com : ∀ j, j < ios.length → ∀ i, i < j → ((masksFrom [] ops.toList).getD j 0).testBit i = true ∨ compat (ft i) (ft j) = true
  gr : GrowsX ex
  wf0 : Wf (st 0).s.h (st 0).s.n
def tch (ft : Nat → Foot) (j id : Nat) : Bool := (ft j).all == 2 || (ft j).wr.contains id || (ft j).al.contains id
def cont (st : Nat → St) (ft : Nat → Foot) (S : Nat → Bool) : Nat → Nat → Option AO
  | 0, id => look (st 0).s.h id
  | j + 1, id => if S j && tch ft j id then look (st (j + 1)).s.h id else cont st ft S j id
def dstOf (ios : List Sim.Op1) (j : Nat) : Option Nat := (ios[j]?).bind (·.dst)
def tl (ios : List Sim.Op1) (st : Nat → St) (v : Nat → AV) (S : Nat → Bool) : Nat → List AV
  | 0 => (st 0).t
  | j + 1 => if S j then put (tl ios st v S j) (dstOf ios j) (v j) else tl ios st v S j
section
variable {P : Program} {T : Tab} {ex : Nat → Bool → IC → St → Option (Ex × St)} {lim : Nat} {ops : Array Oper} {ios : List Sim.Op1} {st : Nat → St} {ft : Nat → Foot} {v : Nat → AV}
theorem Reg.get (R : Reg P T ex lim ops ios st ft v) {j : Nat} (h : j < ios.length) : ∃ io o, ios[j]? = some io ∧ ops.toList[j]? = some o ∧ compOper P ops.toList o = some io := by
  obtain ⟨h1, h2⟩ := mapO_spec R.comp
  obtain ⟨o, h3, h4⟩ := h2 j ios[j] (by simp [h])
  exact ⟨ios[j], o, by simp [h], h3, h4⟩
theorem Reg.size (R : Reg P T ex lim ops ios st ft v) : ios.length = ops.size := by
  obtain ⟨h1, h2⟩ := mapO_spec R.comp
  simpa using h1
theorem Reg.grows (R : Reg P T ex lim ops ios st ft v) {j : Nat} (h : j < ios.length) : Grows (st j).s (st (j + 1)).s := by
  obtain ⟨io, o, h1, _, _⟩ := R.get h
  obtain ⟨_, h2⟩ := R.step j io h1
  rcases h2 with ⟨_, _, _, h3⟩ | ⟨_, xs, _, _, _, h3, _⟩ | ⟨_, xs, _, _, _, h3⟩
  · rw [h3]; exact .refl _
  · rw [h3]; exact .refl _
  · exact grows_step R.gr h3
theorem Reg.mono (R : Reg P T ex lim ops ios st ft v) {i : Nat} : ∀ {j : Nat}, i ≤ j → j ≤ ios.length → (st i).s.n ≤ (st j).s.n
  | 0, h, _ => by have : i = 0 := by omega
                  subst this; exact Nat.le_refl _
  | j + 1, h, hm => by
    by_cases e : i = j + 1
    · subst e; exact Nat.le_refl _
    · exact Nat.le_trans (R.mono (i := i) (j := j) (by omega) (by omega)) (R.grows (by omega)).n
theorem Reg.wf (R : Reg P T ex lim ops ios st ft v) : ∀ {j : Nat}, j ≤ ios.length → Wf (st j).s.h (st j).s.n
  | 0, _ => R.wf0
  | j + 1, h => (R.grows (by omega)).wf (R.wf (by omega))
theorem Reg.al (R : Reg P T ex lim ops ios st ft v) {j id : Nat} (h : j < ios.length) : id ∈ (ft j).al ↔ (st j).s.n ≤ id ∧ id < (st (j + 1)).s.n := by
  obtain ⟨io, o, h1, _, _⟩ := R.get h
  obtain ⟨_, h2⟩ := R.step j io h1
  rcases h2 with ⟨_, _, h4, h3⟩ | ⟨_, xs, _, _, h4, h3, _⟩ | ⟨_, xs, _, _, h4, h3⟩
  · rw [h4, h3]; simp
  · rw [h4, h3, foot_al]; simp
  · rw [h4]
    simp only [List.mem_range'_1]
    have := (R.grows h).n
    omega
theorem Reg.all (R : Reg P T ex lim ops ios st ft v) {j : Nat} (h : j < ios.length) : (ft j).all ≤ 2 := by
  obtain ⟨io, o, h1, _, _⟩ := R.get h
  obtain ⟨_, h2⟩ := R.step j io h1
  rcases h2 with ⟨_, _, h4, h3⟩ | ⟨_, xs, _, _, h4, h3, _⟩ | ⟨_, xs, _, _, h4, h3⟩
  · rw [h4]; simp
  · rw [h4]; exact (foot_all T _ _).1
  · rw [h4]; exact (foot_all T _ _).1
theorem Reg.keep (R : Reg P T ex lim ops ios st ft v) {j id : Nat} (h : j < ios.length) (ht : tch ft j id = false) : look (st (j + 1)).s.h id = look (st j).s.h id := by
  obtain ⟨io, o, h1, _, _⟩ := R.get h
  obtain ⟨_, h2⟩ := R.step j io h1
  rcases h2 with ⟨_, _, h4, h3⟩ | ⟨_, xs, _, _, h4, h3, _⟩ | ⟨_, xs, _, h5, h4, h3⟩
  · rw [h3]
  · rw [h3]
  · have h6 := (foot_all T io.k xs).1
    simp only [tch, Bool.or_eq_false_iff, beq_eq_false_iff_ne, ne_eq, List.contains_eq_mem, decide_eq_false_iff_not] at ht
    have hal := ht.2
    rw [R.al h] at hal
    rw [h4] at ht
    have h0 : (foot T io.k xs).all = 0 := by
      have := ht.1.1
      simp only at this
      omega
    obtain ⟨out, ho, _, hs⟩ := step_plain h3 h0
    rw [hs, look_apply (fun i ob hu => (doOp_up (T := T) ho hu).2)]
    have hn := apply_n out (st j).s
    rw [← hs] at hn
    unfold Out.after Out.base
    cases hnew : out.new with
    | none =>
      simp only
      cases hu : out.up with
      | none => rfl
      | some p =>
        obtain ⟨i, ob⟩ := p
        have := (doOp_up (T := T) ho hu).1
        simp only
        rw [if_neg (fun e => ht.1.2 (by rw [e]; exact this))]
    | some ob' =>
      rw [hnew] at hn
      simp only [Option.isSome_some, if_true] at hn
      simp only
      rw [if_neg (by omega)]
      cases hu : out.up with
      | none => rfl
      | some p =>
        obtain ⟨i, ob⟩ := p
        have := (doOp_up (T := T) ho hu).1
        simp only
        rw [if_neg (fun e => ht.1.2 (by rw [e]; exact this))]
theorem contA (R : Reg P T ex lim ops ios st ft v) {S : Nat → Bool} {id : Nat} : ∀ {j : Nat}, j ≤ ios.length → (∀ i, i < j → tch ft i id = true → S i = true) → cont st ft S j id = look (st j).s.h id
  | 0, _, _ => rfl
  | j + 1, hm, h => by
    simp only [cont]
    cases ht : tch ft j id with
    | true => simp [h j (by omega) ht]
    | false =>
      simp only [Bool.and_false, Bool.false_eq_true, if_false]
      rw [contA R (by omega) (fun i hi => h i (by omega)), R.keep (by omega) ht]
theorem contB {S : Nat → Bool} {id j : Nat} : ∀ {m : Nat}, j ≤ m → (∀ i, j ≤ i → i < m → S i = true → tch ft i id = false) → cont st ft S m id = cont st ft S j id
  | 0, hj, _ => by have : j = 0 := by omega
                   subst this; rfl
  | m + 1, hj, h => by
    by_cases e : j = m + 1
    · subst e; rfl
    · simp only [cont]
      have h1 : ¬ ((S m && tch ft m id) = true) := by
        intro h2
        simp only [Bool.and_eq_true] at h2
        rw [h m (by omega) (by omega) h2.1] at h2
        cases h2.2
      rw [if_neg h1]
      exact contB (by omega) (fun i hi hi2 => h i hi (by omega))
theorem contC {S S' : Nat → Bool} {id j : Nat} {ao : AO} (hS : ∀ i, j < i → S' i = S i) (h0 : cont st ft S' (j + 1) id = some ao → cont st ft S (j + 1) id = some ao) : ∀ {m : Nat}, j < m → cont st ft S' m id = some ao → cont st ft S m id = some ao
  | 0, hj, _ => by omega
  | m + 1, hj, h => by
    by_cases e : j = m
    · subst e; exact h0 h
    · simp only [cont] at h ⊢
      rw [hS m (by omega)] at h
      split at h
      · rename_i hc; rw [if_pos hc]; exact h
      · rename_i hc; rw [if_neg hc]; exact contC hS h0 (by omega) h
theorem cont_congr {S S' : Nat → Bool} {id : Nat} : ∀ {j : Nat}, (∀ i, i < j → S' i = S i) → cont st ft S' j id = cont st ft S j id
  | 0, _ => rfl
  | j + 1, h => by simp only [cont, h j (by omega), cont_congr (j := j) (fun i hi => h i (by omega))]
theorem tl_length (R : Reg P T ex lim ops ios st ft v) {S : Nat → Bool} : ∀ {j : Nat}, j ≤ ios.length → (tl ios st v S j).length = (st j).t.length
  | 0, _ => rfl
  | j + 1, h => by
    obtain ⟨io, o, h1, _, _⟩ := R.get (j := j) (by omega)
    rw [(R.step j io h1).1, put_length]
    simp only [tl]
    split
    · rw [put_length]; exact tl_length R (by omega)
    · exact tl_length R (by omega)
theorem tlA (R : Reg P T ex lim ops ios st ft v) {S : Nat → Bool} {t : Nat} : ∀ {j : Nat}, j ≤ ios.length → (∀ i, i < j → dstOf ios i = some t → S i = true) → (tl ios st v S j)[t]? = (st j).t[t]?
  | 0, _, _ => rfl
  | j + 1, hm, h => by
    obtain ⟨io, o, h1, _, _⟩ := R.get (j := j) (by omega)
    have hst := (R.step j io h1).1
    have hd : dstOf ios j = io.dst := by simp [dstOf, h1]
    have ih := tlA R (S := S) (t := t) (j := j) (by omega) (fun i hi => h i (by omega))
    have hl := tl_length R (S := S) (j := j) (by omega)
    simp only [tl, hst]
    by_cases e : io.dst = some t
    · rw [h j (by omega) (hd.trans e)]
      simp only [if_true, hd, e, put, List.getElem?_set, hl]
    · rw [put_get_ne e]
      split
      · rw [hd, put_get_ne e]; exact ih
      · exact ih
theorem tlB {S : Nat → Bool} {t j : Nat} : ∀ {m : Nat}, j ≤ m → (∀ i, j ≤ i → i < m → S i = true → dstOf ios i ≠ some t) → (tl ios st v S m)[t]? = (tl ios st v S j)[t]?
  | 0, hj, _ => by have : j = 0 := by omega
                   subst this; rfl
  | m + 1, hj, h => by
    by_cases e : j = m + 1
    · subst e; rfl
    · simp only [tl]
      split
      · rename_i hs
        rw [put_get_ne (h m (by omega) (by omega) hs)]
        exact tlB (by omega) (fun i hi hi2 => h i hi (by omega))
      · exact tlB (by omega) (fun i hi hi2 => h i hi (by omega))
theorem tl_congr {S S' : Nat → Bool} : ∀ {j : Nat}, (∀ i, i < j → S' i = S i) → tl ios st v S' j = tl ios st v S j
  | 0, _ => rfl
  | j + 1, h => by simp only [tl, h j (by omega), tl_congr (j := j) (fun i hi => h i (by omega))]
theorem tlC {S S' : Nat → Bool} {j : Nat} (hlo : ∀ i, i < j → S' i = S i) (hhi : ∀ i, j < i → S' i = S i) (h1 : S j = false) (h2 : S' j = true) : ∀ {m : Nat}, j < m → (∀ i, j < i → i < m → S i = true → ∀ t, dstOf ios j = some t → dstOf ios i ≠ some t) →
    tl ios st v S' m = put (tl ios st v S m) (dstOf ios j) (v j)
  | 0, hj, _ => by omega
  | m + 1, hj, h => by
    by_cases e : j = m
    · subst e
      simp only [tl, h1, h2, if_true, Bool.false_eq_true, if_false, tl_congr hlo]
    · have ih := tlC hlo hhi h1 h2 (m := m) (by omega) (fun i hi hi2 => h i hi (by omega))
      simp only [tl, hhi m (by omega), ih]
      split
      · rename_i hs
        exact put_comm (h m (by omega) (by omega) hs)
      · rfl
end
end Go.Sim
set_option linter.unusedVariables false
set_option linter.unusedSimpArgs false
namespace Go.Sim
section
variable {P : Program} {T : Tab} {ex : Nat → Bool → IC → St → Option (Ex × St)} {lim : Nat} {ops : Array Oper} {ios : List Sim.Op1} {st : Nat → St} {ft : Nat → Foot} {v : Nat → AV} {S S' : Nat → Bool}
structure InvS (P : Program) (ops : Array Oper) (ios : List Sim.Op1) (st : Nat → St) (ft : Nat → Foot) (v : Nat → AV) (lim base : Nat) (g0 : Gh) (w0 : World) (S : Nat → Bool) (g : Gh) (a : Act) (w : World) : Prop where
  ext : Ext lim g0 g w0 w
  W : WG g w
  H : HR P g (cont st ft S ios.length) w
  dom : ∀ id, g.ι id ≠ none → id < (st 0).s.n ∨ ∃ i, i < ios.length ∧ S i = true ∧ id ∈ (ft i).al
  t : TR g (tl ios st v S ios.length) a.tmps.toList
  marks : Marks base g w a.defers
  closed : ∀ i oi, S i = true → ops.toList[i]? = some oi → ∀ e ∈ oi.after.toList, Region.binds .any e = true → S e.on = true
structure Rdy (ops : Array Oper) (ios : List Sim.Op1) (S : Nat → Bool) (j : Nat) (o : Oper) (io : Sim.Op1) : Prop where
  hop : ops.toList[j]? = some o
  hio : ios[j]? = some io
  c : j < ios.length
  no : S j = false
  edges : ∀ e ∈ o.after.toList, Region.binds .any e = true → S e.on = true
theorem early (R : Reg P T ex lim ops ios st ft v) {j : Nat} {o : Oper} {io : Sim.Op1} (hr : Rdy ops ios S j o io)
    (hcl : ∀ i oi, S i = true → ops.toList[i]? = some oi → ∀ e ∈ oi.after.toList, Region.binds .any e = true → S e.on = true) {i : Nat} (hi : i < j) :
    S i = true ∨ (((masksFrom [] ops.toList).getD j 0).testBit i = false ∧ compat (ft i) (ft j) = true ∧ ∀ p, ios[i]? = some p → (∀ d, p.dst = some d → io.dst ≠ some d ∧ d ∉ io.reads) ∧ ∀ d, io.dst = some d → d ∉ p.reads) := by
  cases hb : ((masksFrom [] ops.toList).getD j 0).testBit i with
  | true => exact .inl (mask_closed R.back (D := fun i => S i = true) hcl j o hr.hop hr.edges i hb)
  | false =>
    refine .inr ⟨rfl, (R.com j hr.c i hi).resolve_left (by rw [hb]; simp), fun p hp => ?_⟩
    exact (R.tmps j io hr.hio i p hi hp).resolve_left (by rw [hb]; simp)
theorem late (R : Reg P T ex lim ops ios st ft v) {j : Nat} {o : Oper} {io : Sim.Op1} (hr : Rdy ops ios S j o io)
    (hcl : ∀ i oi, S i = true → ops.toList[i]? = some oi → ∀ e ∈ oi.after.toList, Region.binds .any e = true → S e.on = true) {i : Nat} (hi : j < i) (him : i < ios.length) (hS : S i = true) :
    compat (ft j) (ft i) = true ∧ ∀ p, ios[i]? = some p → (∀ d, io.dst = some d → p.dst ≠ some d ∧ d ∉ p.reads) ∧ ∀ d, p.dst = some d → d ∉ io.reads := by
  obtain ⟨ioi, oi, h1, h2, h3⟩ := R.get him
  have hb : ((masksFrom [] ops.toList).getD i 0).testBit j = false := by
    cases hb : ((masksFrom [] ops.toList).getD i 0).testBit j with
    | false => rfl
    | true =>
      have := mask_closed R.back (D := fun i => S i = true) hcl i oi h2 (fun e he hbi => hcl i oi hS h2 e he hbi) j hb
      simp only [hr.no] at this
      cases this
  refine ⟨(R.com i him j hi).resolve_left (by rw [hb]; simp), fun p hp => ?_⟩
  exact (R.tmps i p hp j io hi hr.hio).resolve_left (by rw [hb]; simp)
theorem reads_ok (R : Reg P T ex lim ops ios st ft v) {j : Nat} {o : Oper} {io : Sim.Op1} (hr : Rdy ops ios S j o io)
    (hcl : ∀ i oi, S i = true → ops.toList[i]? = some oi → ∀ e ∈ oi.after.toList, Region.binds .any e = true → S e.on = true) {t : Nat} (ht : t ∈ io.reads) : (tl ios st v S ios.length)[t]? = (st j).t[t]? := by
  rw [tlB (j := j) (Nat.le_of_lt hr.c), tlA R (Nat.le_of_lt hr.c)]
  · intro i hi hd
    rcases early R hr hcl hi with h | ⟨_, _, h⟩
    · exact h
    · obtain ⟨ioi, oi, h1, _, _⟩ := R.get (j := i) (by have := hr.c; omega)
      have hd' : ioi.dst = some t := by simpa [dstOf, h1] using hd
      exact absurd ht ((h ioi h1).1 t hd').2
  · intro i hi him hS hd
    by_cases e : i = j
    · subst e; rw [hr.no] at hS; cases hS
    · obtain ⟨ioi, oi, h1, _, _⟩ := R.get him
      have hd' : ioi.dst = some t := by simpa [dstOf, h1] using hd
      exact absurd ht (((late R hr hcl (by omega) him hS).2 ioi h1).2 t hd')
theorem tl_put (R : Reg P T ex lim ops ios st ft v) {j : Nat} {o : Oper} {io : Sim.Op1} (hr : Rdy ops ios S j o io)
    (hcl : ∀ i oi, S i = true → ops.toList[i]? = some oi → ∀ e ∈ oi.after.toList, Region.binds .any e = true → S e.on = true) (hne : ∀ i, i ≠ j → S' i = S i) (hj : S' j = true) :
    tl ios st v S' ios.length = put (tl ios st v S ios.length) io.dst (v j) := by
  have hd : dstOf ios j = io.dst := by simp [dstOf, hr.hio]
  rw [← hd]
  refine tlC (fun i hi => hne i (by omega)) (fun i hi => hne i (by omega)) hr.no hj hr.c (fun i hi him hS t ht hd2 => ?_)
  obtain ⟨ioi, oi, h1, _, _⟩ := R.get him
  have hd' : ioi.dst = some t := by simpa [dstOf, h1] using hd2
  exact (((late R hr hcl hi him hS).2 ioi h1).1 t (hd.symm.trans ht)).1 hd'
theorem sees_ok (R : Reg P T ex lim ops ios st ft v) {j : Nat} {o : Oper} {io : Sim.Op1} (hr : Rdy ops ios S j o io)
    (hcl : ∀ i oi, S i = true → ops.toList[i]? = some oi → ∀ e ∈ oi.after.toList, Region.binds .any e = true → S e.on = true) {id : Nat} {ao : AO} (hid : id ∈ (ft j).rd ∨ id ∈ (ft j).wr) (hl : look (st j).s.h id = some ao) :
    cont st ft S ios.length id = some ao := by
  have hlt := (R.wf (Nat.le_of_lt hr.c)).lt hl
  rw [contB (j := j) (Nat.le_of_lt hr.c), contA R (Nat.le_of_lt hr.c)]
  · exact hl
  · intro i hi ht
    rcases early R hr hcl hi with h | ⟨_, h, _⟩
    · exact h
    · obtain ⟨c1, c2, c3, c4, c5, c6⟩ := compat_spec h
      simp only [tch, Bool.or_eq_true, beq_iff_eq, List.contains_eq_mem, decide_eq_true_eq] at ht
      rcases ht with (ht | ht) | ht
      · omega
      · rcases hid with hid | hid
        · exact absurd hid (c2 id ht).1
        · exact absurd hid (c2 id ht).2
      · rcases hid with hid | hid
        · exact absurd hid (c4 id ht).1
        · exact absurd hid (c4 id ht).2
  · intro i hi him hS
    by_cases e : i = j
    · subst e; rw [hr.no] at hS; cases hS
    · obtain ⟨c1, c2, c3, c4, c5, c6⟩ := compat_spec (late R hr hcl (by omega) him hS).1
      simp only [tch, Bool.or_eq_false_iff, beq_eq_false_iff_ne, ne_eq, List.contains_eq_mem, decide_eq_false_iff_not]
      refine ⟨⟨by omega, fun h => ?_⟩, fun h => ?_⟩
      · rcases hid with hid | hid
        · exact c3 id h hid
        · exact (c2 id hid).2 h
      · rw [R.al him] at h
        have := R.mono (i := j) (j := i) (by omega) (by omega)
        omega
theorem later_ok (R : Reg P T ex lim ops ios st ft v) {j : Nat} {o : Oper} {io : Sim.Op1} (hr : Rdy ops ios S j o io)
    (hcl : ∀ i oi, S i = true → ops.toList[i]? = some oi → ∀ e ∈ oi.after.toList, Region.binds .any e = true → S e.on = true) (hne : ∀ i, i ≠ j → S' i = S i) (hj : S' j = true) {id : Nat}
    (hid : (id ∈ (ft j).wr ∧ id < (st j).s.n) ∨ id ∈ (ft j).al) : cont st ft S' ios.length id = look (st (j + 1)).s.h id := by
  rw [contB (j := j + 1) hr.c]
  · have : tch ft j id = true := by
      simp only [tch, Bool.or_eq_true, beq_iff_eq, List.contains_eq_mem, decide_eq_true_eq]
      rcases hid with ⟨h, _⟩ | h
      · exact .inl (.inr h)
      · exact .inr h
    simp [cont, hj, this]
  · intro i hi him hS'
    have hS : S i = true := by rw [← hne i (by omega)]; exact hS'
    obtain ⟨c1, c2, c3, c4, c5, c6⟩ := compat_spec (late R hr hcl (by omega) him hS).1
    simp only [tch, Bool.or_eq_false_iff, beq_eq_false_iff_ne, ne_eq, List.contains_eq_mem, decide_eq_false_iff_not]
    have hmono := R.mono (i := j + 1) (j := i) (by omega) (by omega)
    have hg := (R.grows hr.c).n
    refine ⟨⟨by omega, fun h => ?_⟩, fun h => ?_⟩
    · rcases hid with ⟨hid, _⟩ | hid
      · exact (c2 id hid).2 h
      · exact (c4 id hid).2 h
    · rw [R.al him] at h
      rcases hid with ⟨_, hid⟩ | hid
      · omega
      · rw [R.al hr.c] at hid
        omega
theorem other_ok (R : Reg P T ex lim ops ios st ft v) {j : Nat} {o : Oper} {io : Sim.Op1} (hr : Rdy ops ios S j o io)
    (hcl : ∀ i oi, S i = true → ops.toList[i]? = some oi → ∀ e ∈ oi.after.toList, Region.binds .any e = true → S e.on = true) (hne : ∀ i, i ≠ j → S' i = S i) (hj : S' j = true) {id : Nat} {ao : AO}
    (hk : tch ft j id = true → id ∈ (ft j).wr ∧ look (st (j + 1)).s.h id = look (st j).s.h id) (h : cont st ft S' ios.length id = some ao) : cont st ft S ios.length id = some ao := by
  refine contC (j := j) (fun i hi => hne i (by omega)) (fun h0 => ?_) hr.c h
  have hSj : cont st ft S (j + 1) id = cont st ft S j id := by simp [cont, hr.no]
  have hcg : cont st ft S' j id = cont st ft S j id := cont_congr (fun i hi => hne i (by omega))
  rw [hSj]
  cases ht : tch ft j id with
  | false =>
    simp only [cont, ht, Bool.and_false, Bool.false_eq_true, if_false, hcg] at h0
    exact h0
  | true =>
    obtain ⟨k1, k2⟩ := hk ht
    simp only [cont, ht, hj, Bool.and_self, if_true, k2] at h0
    rw [contA R (Nat.le_of_lt hr.c)]
    · exact h0
    · intro i hi hti
      rcases early R hr hcl hi with h | ⟨_, h, _⟩
      · exact h
      · obtain ⟨c1, c2, c3, c4, c5, c6⟩ := compat_spec h
        simp only [tch, Bool.or_eq_true, beq_iff_eq, List.contains_eq_mem, decide_eq_true_eq] at hti
        rcases hti with (hti | hti) | hti
        · omega
        · exact absurd k1 (c2 id hti).2
        · exact absurd k1 (c4 id hti).2
end
end Go.Sim
set_option linter.unusedVariables false
set_option linter.unusedSimpArgs false
namespace Go.Sim
section
variable {P : Program} {T : Tab} {ex : Nat → Bool → IC → St → Option (Ex × St)} {lim : Nat} {ops : Array Oper} {ios : List Sim.Op1} {st : Nat → St} {ft : Nat → Foot} {v : Nat → AV} {S S' : Nat → Bool} {r : Option Nat} {n base : Nat} {g0 g : Gh} {w0 w : World}
theorem good_wp {o : Oper} {k : OpK} {os : List Operand} {L : Nat → Option AO} {m : Nat} {out : Out} {a : Act} (ho : compOp P o.op o.type = some (k, os)) (hg : Good P g lim w L m out (execOp a.eval o)) {next : Act → World → Prop} {Q : Exit → Act → World → Prop}
    (hnext : ∀ V g' w', VR g' out.v V → HR P g' (out.after L m) w' → WG g' w' → Ext lim g g' w w' → (∀ id, g'.ι id ≠ none → g.ι id ≠ none ∨ (id = m ∧ out.new.isSome)) → next (a.put o.dst V) w') :
    o.wpIn (FW r) n P a w next Q := by
  obtain ⟨V, nx, g', w', hrun, hnx, hv, hH, hW, hE, hdom⟩ := hg
  refine ⟨fun _ _ => trivial, ?_⟩
  rw [semAt_exec _ (compOp_defer ho), hrun]
  rcases hnx with rfl | ⟨rfl, rfl⟩
  · exact hnext V g' w' hv hH hW hE hdom
  · exact hnext undef g' w' hv hH hW hE hdom
theorem foot_plain {k : OpK} {xs : List AV} (h1 : ∀ f, k ≠ .callF f) (h2 : k ≠ .callV) : (foot T k xs).all = 0 := by
  unfold foot
  split <;> first
    | rfl
    | exact absurd rfl (h1 _)
    | exact absurd rfl h2
theorem pure_step (hex : ExOK P ex) (hT : TabOK P T) {o : Oper} {k : OpK} {os : List Operand} {xs : List AV} {x : AV} {s s2 : Hp} {a : Act} (ho : (compOp P o.op o.type).getD (.fail, []) = (k, os)) (h : step T ex lim k xs s = some (x, s2)) (hall : (foot T k xs).all = 1)
    (ht : TR g xs (os.map a.eval)) (hI : Inv P g w s) {next : Act → World → Prop} {Q : Exit → Act → World → Prop}
    (hnext : ∀ V g' w', VR g' x V → g'.ι = g.ι → WG g' w' → (∀ b, b < w.heap.size → w'.heap[b]? = w.heap[b]?) → Ext s.n g g' w w' → next (a.put o.dst V) w') : o.wpIn (FW r) n P a w next Q := by
  have fin : ∀ e w', Gives P s.n g w s x s e w' → ∃ V, e = .returned V ∧ next (a.put o.dst V) w' := by
    rintro e w' ⟨V, g', rfl, k1, k2, k3, k4⟩
    refine ⟨V, rfl, hnext V g' w' k1 ?_ k2.W ?_ k3⟩
    · funext id
      by_cases hid : id < s.n
      · exact k3.old id hid
      · have h1 : g.ι id = none := by
          cases h : g.ι id with
          | none => rfl
          | some l => exact absurd (hI.dom id (by rw [h]; simp)) hid
        have h2 : g'.ι id = none := by
          cases h : g'.ι id with
          | none => rfl
          | some l => exact absurd (k2.dom id (by rw [h]; simp)) hid
        rw [h1, h2]
    · intro b hb
      exact k3.keep b hb (fun id loc hid hi => by
        have := hI.dom id (by rw [hi]; simp)
        omega)
  cases hco : compOp P o.op o.type with
  | none =>
    rw [hco] at ho
    cases ho
    simp only [step, doOp_fail] at h
    cases h
  | some p =>
    rw [hco] at ho
    cases ho
    unfold step at h
    split at h
    · rename_i f
      obtain ⟨c, fv, h1, h2, h3⟩ := compOp_call hco (.inr ⟨f, rfl⟩)
      rcases h3 with ⟨f', h4, h5, h6⟩ | ⟨h4, _⟩
      · cases h4
        subst h5
        simp only [foot] at hall
        split at hall
        · rename_i ifn hifn
          split at hall
          · rename_i hp
            have hargs : TR g xs (#[] ++ c.args.map a.eval ++ #[]).toList := by rw [h6] at ht; simpa using ht
            exact fncall_ok hT h1 h2 rfl hifn (callF_pure hex hT hifn hp h hargs hI).2 fin
          · cases hall
        · cases hall
      · cases h4
    · obtain ⟨c, fv, h1, h2, h3⟩ := compOp_call hco (.inl rfl)
      rcases h3 with ⟨f', h4, _⟩ | ⟨_, h6⟩
      · cases h4
      · subst h6
        split at h
        · rename_i fa args
          have hfa := ht.head
          have hargs := ht.tail
          unfold callV at h
          simp only [foot] at hall
          split at h
          · rename_i f first cap
            generalize hV : a.eval fv = V at hfa
            cases hfa with
            | @fn _ _ _ _ F C l1 l2 v1 v2 =>
              simp only at hall
              split at hall
              · rename_i ifn hifn
                split at hall
                · rename_i hp
                  have hF : TR g first F.toList := ⟨by simpa using l1, fun i x y hx hy => v1 i x y hx (by simpa using hy)⟩
                  have hC : TR g cap C.toList := ⟨by simpa using l2, fun i x y hx hy => v2 i x y hx (by simpa using hy)⟩
                  have hall : TR g (first ++ args ++ cap) (F ++ c.args.map a.eval ++ C).toList := by
                    have := (hF.app hargs).app hC
                    simpa using this
                  exact fncall_ok hT h1 h2 hV hifn (callF_pure hex hT hifn hp h hall hI).2 fin
                · cases hall
              · cases hall
          · simp only at hall
            cases hall
          · cases h
        · cases h
    · rename_i h1 h2
      exfalso
      have := foot_plain (T := T) (xs := xs) (fun f e => h1 f e) (fun e => h2 e)
      omega
theorem cov (R : Reg P T ex lim ops ios st ft v) {id : Nat} : ∀ {j : Nat}, j ≤ ios.length → (st 0).s.n ≤ id → id < (st j).s.n → ∃ i, i < j ∧ id ∈ (ft i).al
  | 0, _, h1, h2 => by omega
  | j + 1, hj, h1, h2 => by
    by_cases h : id < (st j).s.n
    · obtain ⟨i, hi, h3⟩ := cov R (j := j) (by omega) h1 h
      exact ⟨i, by omega, h3⟩
    · exact ⟨j, by omega, (R.al (by omega)).2 ⟨by omega, h2⟩⟩
theorem draw_step (R : Reg P T ex lim ops ios st ft v) (hex : ExOK P ex) (hT : TabOK P T) (hlim : lim ≤ (st 0).s.n) {j : Nat} {o : Oper} {io : Sim.Op1} {a : Act} (hr : Rdy ops ios S j o io) (hco : compOper P ops.toList o = some io)
    (hI : InvS P ops ios st ft v lim base g0 w0 S g a w) (hne : ∀ i, i ≠ j → S' i = S i) (hj : S' j = true) {K : Act → World → Prop} {Q : Exit → Act → World → Prop} (hK : ∀ g' a' w', InvS P ops ios st ft v lim base g0 w0 S' g' a' w' → K a' w') :
    wpOpIn (FW r) n P ops Q j K a w := by
  have hcl := hI.closed
  have hops : ops[j]? = some o := by simpa using hr.hop
  unfold wpOpIn
  rw [hops]
  simp only
  obtain ⟨os, c1, c2, c3, c4⟩ := compOper_spec hco
  have hw : Region.wanted o (yielded ops a.tmps) = Sim.wanted (st j).t io.guard := by
    rw [wanted_ok hI.t hco]
    refine wanted_congr (fun i b hg => reads_ok R hr hcl ?_)
    simp [Op1.reads, hg]
  have hev : evs (tl ios st v S ios.length) io.xs = evs (st j).t io.xs := evs_congr (fun t ht => reads_ok R hr hcl (by
    simp only [Op1.reads, List.mem_append, List.mem_filterMap]
    exact .inl ⟨.t t, ht, rfl⟩))
  have hcl' : ∀ i oi, S' i = true → ops.toList[i]? = some oi → ∀ e ∈ oi.after.toList, Region.binds .any e = true → S' e.on = true := by
    intro i oi hi hoi e he hb
    have up : ∀ i, S i = true → S' i = true := fun i h => by
      by_cases e : i = j
      · rw [e]; exact hj
      · rw [hne i e]; exact h
    by_cases e1 : i = j
    · subst e1
      rw [hr.hop] at hoi
      cases hoi
      exact up _ (hr.edges e he hb)
    · exact up _ (hcl i oi (by rw [← hne i e1]; exact hi) hoi e he hb)
  have hmk : ∀ {g' : Gh} {w' : World} {V : Value}, Ext lim g g' w w' → Marks base g' w' (a.put o.dst V).defers := by
    intro g' w' V hE
    have : (a.put o.dst V).defers = a.defers := by cases o.dst <;> rfl
    rw [this]
    exact hI.marks.ext hE
  have htl : ∀ {g' : Gh} {w' : World} {V : Value}, Ext lim g g' w w' → VR g' (v j) V → TR g' (tl ios st v S' ios.length) (a.put o.dst V).tmps.toList := by
    intro g' w' V hE hV
    rw [tl_put R hr hcl hne hj, c3]
    exact put_tr (hI.t.mono hE.le) hV o.dst
  have hdomS : ∀ id, (id < (st 0).s.n ∨ ∃ i, i < ios.length ∧ S i = true ∧ id ∈ (ft i).al) → id < (st 0).s.n ∨ ∃ i, i < ios.length ∧ S' i = true ∧ id ∈ (ft i).al := by
    rintro id (h | ⟨i, h1, h2, h3⟩)
    · exact .inl h
    · refine .inr ⟨i, h1, ?_, h3⟩
      by_cases e : i = j
      · rw [e]; exact hj
      · rw [hne i e]; exact h2
  have h0j := R.mono (i := 0) (j := j) (by omega) (Nat.le_of_lt hr.c)
  obtain ⟨s1, s2⟩ := R.step j io hr.hio
  rw [hw]
  rcases s2 with ⟨q1, q2, q3, q4⟩ | ⟨q1, xs, q2, q3, q4, q5, s2, q6⟩ | ⟨q1, xs, q2, q3, q4, q5⟩
  · -- not wanted
    rw [q1]
    simp only [Bool.false_eq_true, if_false]
    refine ⟨fun _ _ => trivial, hK g _ w ⟨hI.ext, hI.W, fun id ao h => ?_, fun id h => hdomS id (hI.dom id h), htl (.refl lim g w) (by rw [q2]; exact .undef g), hmk (.refl lim g w), hcl'⟩⟩
    refine hI.H id ao (other_ok R hr hcl hne hj (fun ht => ?_) h)
    rw [tch, q3] at ht
    simp at ht
  · -- a pure call
    rw [q1]
    simp only [if_true]
    have htr := opnds_ok hI.t c2 (hev.trans q2)
    have hfoot := (foot_all T io.k xs).2 (by omega)
    have hlook : ∀ id ao, look (hide (unseen ((masksFrom [] ops.toList).getD j 0) j (revF ft j)) (st j).s.h) id = some ao → cont st ft S ios.length id = some ao := by
      intro id ao h
      obtain ⟨h1, h2⟩ := look_hide _ (R.wf (Nat.le_of_lt hr.c)) h
      have hlt := (R.wf (Nat.le_of_lt hr.c)).lt h1
      rw [contB (j := j) (Nat.le_of_lt hr.c), contA R (Nat.le_of_lt hr.c)]
      · exact h1
      · intro i hi ht
        rcases early R hr hcl hi with h | ⟨hb, h, _⟩
        · exact h
        · obtain ⟨c1, c2, c3, c4, c5, c6⟩ := compat_spec h
          simp only [tch, Bool.or_eq_true, beq_iff_eq, List.contains_eq_mem, decide_eq_true_eq] at ht
          have hja : (ft j).all = 1 := by rw [q4]; exact q3
          rcases ht with (ht | ht) | ht
          · omega
          · rw [c6.resolve_left (by omega)] at ht
            simp at ht
          · exact absurd (unseen_mem i hi hb ht) h2
      · intro i hi him hS
        by_cases e : i = j
        · subst e; rw [hr.no] at hS; cases hS
        · obtain ⟨c1, c2, c3, c4, c5, c6⟩ := compat_spec (late R hr hcl (by omega) him hS).1
          have hja : (ft j).all = 1 := by rw [q4]; exact q3
          simp only [tch, Bool.or_eq_false_iff, beq_eq_false_iff_ne, ne_eq, List.contains_eq_mem, decide_eq_false_iff_not]
          refine ⟨⟨by omega, fun h => ?_⟩, fun h => ?_⟩
          · rw [c5.resolve_left (by omega)] at h
            simp at h
          · rw [R.al him] at h
            have := R.mono (i := j) (j := i) (by omega) (by omega)
            omega
    have hInv : Inv P g w { h := hide (unseen ((masksFrom [] ops.toList).getD j 0) j (revF ft j)) (st j).s.h, n := (st j).s.n + (ios.length - j) } := by
      refine ⟨fun id ao h => hI.H id ao (hlook id ao h), hI.W, fun id h => ?_, ((R.wf (Nat.le_of_lt hr.c)).hide _).mono (by simp)⟩
      simp only
      rcases hI.dom id h with h1 | ⟨i, h1, h2, h3⟩
      · have := hr.c
        omega
      · rw [R.al h1] at h3
        by_cases hij : i < j
        · have := R.mono (i := i + 1) (j := j) (by omega) (Nat.le_of_lt hr.c)
          omega
        · have hij2 : j < i := by
            rcases Nat.lt_or_ge j i with h | h
            · exact h
            · have : i = j := by omega
              subst this
              rw [hr.no] at h2
              cases h2
          -- from j on, each operation makes one object at most
          have hone : ∀ k, j ≤ k → k ≤ i → (st (k + 1)).s.n ≤ (st j).s.n + (k - j) := by
            intro k
            induction k with
            | zero =>
              intro hk _
              have : j = 0 := by omega
              subst this
              rw [q5]; omega
            | succ k ih =>
              intro hk hki
              by_cases e : j = k + 1
              · subst e
                rw [q5]; omega
              · have ihk := ih (by omega) (by omega)
                have hkm : k + 1 < ios.length := by omega
                have hall0 : (ft (k + 1)).all ≤ 1 := by
                  by_cases e2 : k + 1 = i
                  · have := (compat_spec (late R hr hcl hij2 h1 h2).1).1
                    rw [e2]; omega
                  · -- it comes before i, or may be exchanged with i
                    rcases Nat.lt_or_ge 1 (ft (k + 1)).all with hbig | hok
                    · exfalso
                      obtain ⟨ioi, oi, i1, i2, i3⟩ := R.get h1
                      have hb : ((masksFrom [] ops.toList).getD i 0).testBit (k + 1) = true := by
                        rcases R.com i h1 (k + 1) (by omega) with h | h
                        · exact h
                        · have := (compat_spec h).1; omega
                      have hSk : S (k + 1) = true := mask_closed R.back (D := fun i => S i = true) hcl i oi i2 (fun e he hbi => hcl i oi h2 i2 e he hbi) (k + 1) hb
                      have := (compat_spec (late R hr hcl (by omega) hkm hSk).1).1
                      omega
                    · exact hok
                obtain ⟨iok, ok, k1, k2, k3⟩ := R.get hkm
                obtain ⟨_, t2⟩ := R.step (k + 1) iok k1
                rcases t2 with ⟨_, _, _, t3⟩ | ⟨_, xs', _, _, _, t3, _⟩ | ⟨_, xs', _, t3, t4, t5⟩
                · rw [t3]; omega
                · rw [t3]; omega
                · have h00 : (foot T iok.k xs').all = 0 := by
                    have : (ft (k + 1)).all = (foot T iok.k xs').all := by rw [t4]
                    omega
                  obtain ⟨out, _, _, hs⟩ := step_plain t5 h00
                  rw [hs, apply_n]
                  split <;> omega
          have := hone i (by omega) (Nat.le_refl _)
          omega
    refine pure_step hex hT c1 q6 q3 htr hInv (fun V g' w' k1 k2 k3 k4 k5 => hK g' _ w' ?_)
    have hE : Ext lim g g' w w' := k5.mono (by simp only; have := hr.c; omega)
    refine ⟨hI.ext.trans hE, k3, fun id ao h => ?_, fun id h => hdomS id (hI.dom id (by rw [← k2]; exact h)), htl hE k1, hmk hE, hcl'⟩
    have h1 := other_ok R hr hcl hne hj (id := id) (ao := ao) (fun ht => by
      rw [tch, q4] at ht
      rw [q3, hfoot.2, foot_al] at ht
      simp at ht) h
    exact (hI.H id ao h1).mono hE.le (by rw [k2]) (fun loc hl => k4 _ (hI.W.lt id loc hl))
  · rw [q1]
    simp only [if_true]
    have htr := opnds_ok hI.t c2 (hev.trans q2)
    by_cases h00 : (foot T io.k xs).all = 0
    · -- a plain operation
      obtain ⟨out, ho, hv, hs⟩ := step_plain q5 h00
      have hfr : ∀ id ao, id ∈ (foot T io.k xs).rd ∨ id ∈ (foot T io.k xs).wr → look (st j).s.h id = some ao → cont st ft S ios.length id = some ao := by
        intro id ao hid hl
        refine sees_ok R hr hcl ?_ hl
        rw [q4]
        exact hid
      have hloc : doOp (cont st ft S ios.length) lim (st j).s.n io.k xs = some out := doOp_local (T := T) ho hfr
      have hn := apply_n out (st j).s
      rw [← hs] at hn
      have hafter : ∀ id, look (st (j + 1)).s.h id = out.after (look (st j).s.h) (st j).s.n id := fun id => by rw [hs]; exact look_apply (fun i ob hu => (doOp_up (T := T) ho hu).2) id
      have hcmp : ∃ os', compOp P o.op o.type = some (io.k, os') ∧ os' = os := by
        cases hc : compOp P o.op o.type with
        | none =>
          rw [hc] at c1
          simp only [Option.getD_none, Prod.mk.injEq] at c1
          rw [← c1.1, doOp_fail] at ho
          cases ho
        | some p => rw [hc] at c1; exact ⟨os, by rw [← c1]; rfl, rfl⟩
      obtain ⟨os', hcmp, rfl⟩ := hcmp
      -- what is known once it has run
      have fin : ∀ (m : Nat) (V : Value) (g' : Gh) (w' : World), (out.new.isSome = true → m = (st j).s.n) → VR g' out.v V → HR P g' (out.after (cont st ft S ios.length) m) w' → WG g' w' → Ext lim g g' w w' →
          (∀ id, g'.ι id ≠ none → g.ι id ≠ none ∨ (id = m ∧ out.new.isSome)) → K (a.put o.dst V) w' := by
        intro m V g' w' hm k1 k2 k3 k4 k5
        refine hK g' _ w' ⟨hI.ext.trans k4, k3, fun id ao h => k2 id ao ?_, fun id h => ?_, htl k4 (by rw [hv]; exact k1), hmk k4, hcl'⟩
        · -- the memory
          have hal : id ∈ (ft j).al ↔ (st j).s.n ≤ id ∧ id < (st (j + 1)).s.n := R.al hr.c
          have hwr : (ft j).wr = (foot T io.k xs).wr := by rw [q4]
          have hall : (ft j).all = 0 := by rw [q4]; exact h00
          have base_case : (∀ i ob, out.up = some (i, ob) → id ≠ i) → (out.new.isSome = true → id ≠ (st j).s.n) → cont st ft S ios.length id = some ao := by
            intro h1 h2
            refine other_ok R hr hcl hne hj (fun ht => ?_) h
            have hnal : id ∉ (ft j).al := by
              rw [hal, hn]
              cases hnew : out.new with
              | none => simp
              | some ob =>
                have := h2 (by rw [hnew]; rfl)
                simp; omega
            refine ⟨?_, ?_⟩
            · simp only [tch, Bool.or_eq_true, beq_iff_eq, List.contains_eq_mem, decide_eq_true_eq] at ht
              rcases ht with (ht | ht) | ht
              · omega
              · exact ht
              · exact absurd ht hnal
            · rw [hafter id]
              unfold Out.after Out.base
              cases hnew : out.new with
              | none =>
                simp only
                cases hu : out.up with
                | none => rfl
                | some p =>
                  obtain ⟨i, ob⟩ := p
                  simp only
                  rw [if_neg (h1 i ob hu)]
              | some ob' =>
                simp only
                rw [if_neg (h2 (by rw [hnew]; rfl))]
                cases hu : out.up with
                | none => rfl
                | some p =>
                  obtain ⟨i, ob⟩ := p
                  simp only
                  rw [if_neg (h1 i ob hu)]
          by_cases hnewid : out.new.isSome = true ∧ id = (st j).s.n
          · obtain ⟨h1, h2⟩ := hnewid
            have hl := later_ok R hr hcl hne hj (id := id) (.inr (by rw [hal, hn, h1]; simp; omega))
            rw [hl, hafter id] at h
            rw [← h, hm h1]
            unfold Out.after
            cases hnew : out.new with
            | none => rw [hnew] at h1; cases h1
            | some ob => simp only; rw [if_pos h2, if_pos h2]
          · by_cases hupid : ∃ ob, out.up = some (id, ob)
            · obtain ⟨ob, hu⟩ := hupid
              obtain ⟨u1, u2⟩ := doOp_up (T := T) ho hu
              have hsome : ∃ ao0, look (st j).s.h id = some ao0 := Option.isSome_iff_exists.1 u2
              obtain ⟨ao0, hao0⟩ := hsome
              have hlt := (R.wf (Nat.le_of_lt hr.c)).lt hao0
              have hl := later_ok R hr hcl hne hj (id := id) (.inl ⟨by rw [hwr]; exact u1, hlt⟩)
              rw [hl, hafter id] at h
              rw [← h]
              unfold Out.after Out.base
              cases hnew : out.new with
              | none => simp only [hu, if_true]
              | some ob' =>
                have := hm (by rw [hnew]; rfl)
                simp only [hu, if_true]
                rw [if_neg (by omega), if_neg (by omega)]
            · have hbase := base_case (fun i ob hu e => hupid ⟨ob, by rw [e]; exact hu⟩) (fun h1 e => hnewid ⟨h1, e⟩)
              unfold Out.after Out.base
              cases hnew : out.new with
              | none =>
                simp only
                cases hu : out.up with
                | none => exact hbase
                | some p =>
                  obtain ⟨i, ob⟩ := p
                  simp only
                  rw [if_neg (fun e => hupid ⟨ob, by rw [e]; exact hu⟩)]
                  exact hbase
              | some ob' =>
                simp only
                rw [if_neg (fun e => hnewid ⟨by rw [hnew]; rfl, by rw [e]; exact hm (by rw [hnew]; rfl)⟩)]
                cases hu : out.up with
                | none => exact hbase
                | some p =>
                  obtain ⟨i, ob⟩ := p
                  simp only
                  rw [if_neg (fun e => hupid ⟨ob, by rw [e]; exact hu⟩)]
                  exact hbase
        · rcases k5 id h with h1 | ⟨h1, h2⟩
          · exact hdomS id (hI.dom id h1)
          · refine .inr ⟨j, hr.c, hj, ?_⟩
            rw [R.al hr.c, hn, h2, h1, hm h2]
            simp
      cases hnew : out.new with
      | none =>
        have hloc2 : doOp (cont st ft S ios.length) lim (st ios.length).s.n io.k xs = some out := doOp_n hloc hnew
        have hgn : g.ι (st ios.length).s.n = none := by
          cases h : g.ι (st ios.length).s.n with
          | none => rfl
          | some l =>
            rcases hI.dom _ (by rw [h]; simp) with h1 | ⟨i, h1, h2, h3⟩
            · have := R.mono (i := 0) (j := ios.length) (by omega) (Nat.le_refl _)
              omega
            · rw [R.al h1] at h3
              have := R.mono (i := i + 1) (j := ios.length) (by omega) (Nat.le_refl _)
              omega
        have hln : lim ≤ (st ios.length).s.n := Nat.le_trans hlim (R.mono (by omega) (Nat.le_refl _))
        exact good_wp hcmp (doOp_sound a.eval o hcmp htr hloc2 hI.H hI.W hgn hln) (fun V g' w' => fin _ V g' w' (fun h => by rw [hnew] at h; cases h))
      | some ob =>
        have hgn : g.ι (st j).s.n = none := by
          cases h : g.ι (st j).s.n with
          | none => rfl
          | some l =>
            rcases hI.dom _ (by rw [h]; simp) with h1 | ⟨i, h1, h2, h3⟩
            · omega
            · rw [R.al h1] at h3
              rw [hnew] at hn
              simp only [Option.isSome_some, if_true] at hn
              by_cases hij : i < j
              · have := R.mono (i := i + 1) (j := j) (by omega) (Nat.le_of_lt hr.c)
                omega
              · by_cases e : i = j
                · subst e; rw [hr.no] at h2; cases h2
                · have := R.mono (i := j + 1) (j := i) (by omega) (by omega)
                  omega
        exact good_wp hcmp (doOp_sound a.eval o hcmp htr hloc hI.H hI.W hgn (Nat.le_trans hlim h0j)) (fun V g' w' => fin _ V g' w' (fun _ => rfl))
    · -- a call that may write
      have h2 : (ft j).all = 2 := by
        have := (foot_all T io.k xs).1
        rw [q4]
        simp only
        omega
      have hearly : ∀ i, i < j → S i = true := by
        intro i hi
        rcases early R hr hcl hi with h | ⟨_, h, _⟩
        · exact h
        · have := (compat_spec h).1; omega
      have hlate : ∀ i, j ≤ i → i < ios.length → S i = false := by
        intro i hi him
        cases hS : S i with
        | false => rfl
        | true =>
          by_cases e : i = j
          · subst e; rw [hr.no] at hS; cases hS
          · have := (compat_spec (late R hr hcl (by omega) him hS).1).1
            omega
      have hcont : ∀ id, cont st ft S ios.length id = look (st j).s.h id := by
        intro id
        rw [contB (j := j) (Nat.le_of_lt hr.c) (fun i hi him hS => by rw [hlate i hi him] at hS; cases hS), contA R (Nat.le_of_lt hr.c) (fun i hi _ => hearly i hi)]
      have hInv : Inv P g w (st j).s := by
        refine ⟨fun id ao h => hI.H id ao (by rw [hcont]; exact h), hI.W, fun id h => ?_, R.wf (Nat.le_of_lt hr.c)⟩
        rcases hI.dom id h with h1 | ⟨i, h1, h3, h4⟩
        · omega
        · rw [R.al h1] at h4
          by_cases hij : i < j
          · have := R.mono (i := i + 1) (j := j) (by omega) (Nat.le_of_lt hr.c)
            omega
          · rw [hlate i (by omega) h1] at h3; cases h3
      refine step_ok hex hT c1 q5 htr hInv (Nat.le_trans hlim h0j) (fun V g' w' k1 k2 k3 k4 => hK g' _ w' ⟨hI.ext.trans k3, k2.W, fun id ao h => k2.H id ao ?_, fun id h => ?_, htl k3 k1, hmk k3, hcl'⟩)
      · rw [contB (j := j + 1) hr.c (fun i hi him hS => by rw [hne i (by omega), hlate i (by omega) him] at hS; cases hS)] at h
        have ht : tch ft j id = true := by simp [tch, h2]
        simp only [cont, hj, ht, Bool.and_self, if_true] at h
        exact h
      · have hlt := k2.dom id h
        by_cases hlo : id < (st 0).s.n
        · exact .inl hlo
        · obtain ⟨i, hi, h3⟩ := cov R (j := j + 1) hr.c (by omega) hlt
          refine .inr ⟨i, by have := hr.c; omega, ?_, h3⟩
          by_cases e : i = j
          · rw [e]; exact hj
          · rw [hne i e]; exact hearly i (by omega)
end
end Go.Sim
set_option linter.unusedVariables false
set_option linter.unusedSimpArgs false
namespace Go.Sim
section
variable {P : Program} {T : Tab} {ex : Nat → Bool → IC → St → Option (Ex × St)} {lim : Nat} {ops : Array Oper} {ios : List Sim.Op1} {st : Nat → St} {ft : Nat → Foot} {v : Nat → AV} {r : Option Nat} {n base : Nat} {g0 : Gh} {w0 : World}
def listedS (listed : Array Bool) (i : Nat) : Bool := listed.getD i false
theorem listed_set (listed : Array Bool) (i j : Nat) (h : j < listed.size) : listedS (listed.setIfInBounds j true) i = if i = j then true else listedS listed i := by
  unfold listedS
  by_cases e : i = j
  · subst e; simp [h]
  · simp [e, Array.getElem?_setIfInBounds_ne (Ne.symm e)]
theorem draw_any (R : Reg P T ex lim ops ios st ft v) (hex : ExOK P ex) (hT : TabOK P T) (hlim : lim ≤ (st 0).s.n) {Q : Exit → Act → World → Prop}
    (hQ : ∀ (S : Nat → Bool) g a w, (∀ i, i < ios.length → S i = true) → InvS P ops ios st ft v lim base g0 w0 S g a w → Q .normal a w) :
    ∀ (fuel : Nat) (listed : Array Bool) (g : Gh) (a : Act) (w : World), listed.size = ops.size → listed.toList.count false ≤ fuel → InvS P ops ios st ft v lim base g0 w0 (listedS listed) g a w → wpAnyIn (FW r) n P .any ops Q fuel listed a w := by
  have hsz := R.size
  -- nothing is ready: everything has run
  have hall : ∀ (listed : Array Bool), listed.size = ops.size → Region.ready .any ops listed = [] → ∀ i, i < ios.length → listedS listed i = true := by
    intro listed hl hr i
    induction i using Nat.strongRecOn with
    | _ i ih =>
      intro hi
      cases h : listedS listed i with
      | true => rfl
      | false =>
        exfalso
        obtain ⟨io, o, h1, h2, h3⟩ := R.get hi
        have hm : i ∈ Region.ready .any ops listed := by
          rw [mem_ready]
          have hil : i < listed.size := by omega
          refine ⟨by simp only [listedS] at h; simp [hil] at h ⊢; exact h, o, by simpa using h2, fun e he hb => ?_⟩
          have hlt := R.back i o h2 e (by simpa using he) hb
          exact ih e.on hlt (by omega)
        rw [hr] at hm
        cases hm
  intro fuel
  induction fuel with
  | zero =>
    intro listed g a w hl hc hI
    have hnone : ∀ i, i < ios.length → listedS listed i = true := by
      intro i hi
      have hil : i < listed.size := by omega
      have hc0 : listed.toList.count false = 0 := by omega
      rw [List.count_eq_zero] at hc0
      cases h : listedS listed i with
      | true => rfl
      | false =>
        exfalso
        apply hc0
        simp only [listedS] at h
        simp [hil] at h
        rw [← h]
        simp
    refine ⟨?_, hQ _ g a w hnone hI⟩
    rw [List.eq_nil_iff_forall_not_mem]
    intro i hi
    rw [mem_ready] at hi
    obtain ⟨h1, o, h2, _⟩ := hi
    have him : i < ops.size := (Array.getElem?_eq_some_iff.1 h2).1
    have := hnone i (by omega)
    have hil : i < listed.size := by omega
    simp only [listedS] at this
    simp [hil] at h1 this
    rw [h1] at this
    cases this
  | succ fuel ih =>
    intro listed g a w hl hc hI
    refine ⟨fun hr => hQ _ g a w (hall listed hl hr) hI, fun i hi => ?_⟩
    rw [mem_ready] at hi
    obtain ⟨h1, o, h2, h3⟩ := hi
    have him : i < ops.size := (Array.getElem?_eq_some_iff.1 h2).1
    have hil : i < listed.size := by omega
    obtain ⟨io, o', k1, k2, k3⟩ := R.get (j := i) (by omega)
    have : o' = o := by
      have h2' : ops.toList[i]? = some o := by simpa using h2
      rw [h2'] at k2
      cases k2
      rfl
    subst this
    have hno : listedS listed i = false := by
      simp only [listedS]
      simp [hil] at h1 ⊢
      exact h1
    have hr : Rdy ops ios (listedS listed) i o' io := ⟨k2, k1, by omega, hno, fun e he hb => h3 e (by simpa using he) hb⟩
    refine draw_step (S' := listedS (listed.setIfInBounds i true)) R hex hT hlim hr k3 hI (fun j hj => by rw [listed_set _ _ _ hil, if_neg hj]) (by rw [listed_set _ _ _ hil, if_pos rfl]) (fun g' a' w' hI' => ?_)
    refine ih _ g' a' w' (by simpa using hl) ?_ hI'
    have e1 : (listed.setIfInBounds i true).toList = listed.toList.set i true := by simp
    have hli : listed.toList[i]'(by simpa using hil) = false := by
      simp only [listedS] at hno
      simp [hil] at hno
      simpa using hno
    rw [e1, List.count_set (by simpa using hil), hli, if_pos (by rfl), if_neg (by decide)]
    omega
theorem draw_ok (hT : TabOK P T) (hmix : P.follows .mixedOrders = true) {ex : Nat → Bool → IC → St → Option (Ex × St)} (hex : ExOK P ex) (hgr : GrowsX ex) : DrawOK P T ex := by
  intro lim ops ios σ σ' fs id hc hreg hrun hdok r g a w n base ht hI hl hb hm
  obtain ⟨st, ft, v, _, t1, t2, t3, t4⟩ := trace_ok ios 0 σ (fun _ => {}) σ' fs hrun
  simp only [Nat.zero_add] at t2 t3 t4
  have hlen : fs.length = ios.length := by rw [t3, revF_length]
  rw [t3, revF_length] at hdok
  simp only [regOK, Bool.and_eq_true, List.all_eq_true] at hreg
  obtain ⟨r1, r2⟩ := hreg
  have R : Reg P T ex lim ops ios st ft v := by
    refine ⟨hc, fun j o ho e he hbd => ?_, fun j o ho i p hi hp => ?_, t4, drawOK_spec hdok, hgr, by rw [t1]; exact hI.wf⟩
    · have := r1 (o, j) (by rw [List.mem_iff_getElem?]; exact ⟨j, by simp [ho]⟩)
      simp only [List.all_eq_true, Bool.or_eq_true, Bool.not_eq_true', decide_eq_true_eq] at this
      rcases this e he with h | h
      · rw [hbd] at h; cases h
      · exact h
    · have := r2 (o, j) (by rw [List.mem_iff_getElem?]; exact ⟨j, by simp [ho]⟩)
      have h := tmpsOK_spec this i p hp (by omega)
      rw [Nat.zero_add] at h
      exact h
  have hsz := R.size
  refine wpIn_region_any hmix ?_
  have hw : Inv P g { w with drawn := w.drawn + 1 } σ.s := ⟨fun id ao h => (hI.H id ao h).mono (.refl g) rfl (fun _ _ => rfl), ⟨hI.W.still, hI.W.lt, hI.W.out, hI.W.inj⟩, hI.dom, hI.wf⟩
  have hE : Ext lim g g w { w with drawn := w.drawn + 1 } := ⟨.refl g, Nat.le_refl _, fun _ _ _ => rfl, fun id loc h => .inl ⟨loc, h, rfl⟩, fun _ _ => rfl, rfl, rfl, rfl, fun _ _ h => .inl h⟩
  refine draw_any (base := base) (g0 := g) (w0 := w) R hex hT (by rw [t1]; exact hl) ?_ ops.size (Array.replicate ops.size false) g a _ (by simp) (by simp) ?_
  · intro S g' a' w' hS hA
    refine ⟨rfl, g', ?_⟩
    have hcont : ∀ id, cont st ft S ios.length id = look σ'.s.h id := fun id => by
      rw [contA R (Nat.le_refl _) (fun i hi _ => hS i hi), t2]
    have htl : tl ios st v S ios.length = σ'.t := by
      rw [← t2]
      exact List.ext_getElem? (fun t => tlA R (Nat.le_refl _) (fun i hi _ => hS i hi))
    have hmono := R.mono (i := 0) (j := ios.length) (by omega) (Nat.le_refl _)
    rw [t1, t2] at hmono
    refine ⟨by rw [← htl]; exact hA.t, ⟨fun id ao h => hA.H id ao (by rw [hcont]; exact h), hA.W, fun id h => ?_, by have := R.wf (Nat.le_refl ios.length); rw [t2] at this; exact this⟩, hA.ext, hmono, hA.marks⟩
    rcases hA.dom id h with h1 | ⟨i, h1, h2, h3⟩
    · rw [t1] at h1; omega
    · rw [R.al h1] at h3
      have := R.mono (i := i + 1) (j := ios.length) (by omega) (Nat.le_refl _)
      rw [t2] at this
      omega
  · have hnone : ∀ i, listedS (Array.replicate ops.size false) i = false := by
      intro i
      simp only [listedS]
      by_cases h : i < ops.size
      · simp [h]
      · simp [h]
    have hcont : ∀ id, cont st ft (listedS (Array.replicate ops.size false)) ios.length id = look σ.s.h id := by
      intro id
      rw [contB (j := 0) (by omega) (fun i _ _ h => by rw [hnone i] at h; cases h), ← t1]
      rfl
    have htl : tl ios st v (listedS (Array.replicate ops.size false)) ios.length = σ.t := by
      rw [← t1]
      have h2 : ∀ t, (tl ios st v (listedS (Array.replicate ops.size false)) ios.length)[t]? = (tl ios st v (listedS (Array.replicate ops.size false)) 0)[t]? := fun t => tlB (by omega) (fun i _ _ h => by rw [hnone i] at h; cases h)
      exact List.ext_getElem? h2
    exact ⟨hE, hw.W, fun id ao h => hw.H id ao (by rw [← hcont]; exact h), fun id h => .inl (by rw [t1]; exact hw.dom id h), by rw [htl]; exact ht, hm.ext hE, fun i oi h => by rw [hnone i] at h; cases h⟩
theorem exec_sound (hT : TabOK P T) (hmix : P.follows .mixedOrders = true) (d : Nat) : ExOK P (exec T d) := exec_ok hT (fun d h => draw_ok hT hmix h (grows_exec T d)) d
end
end Go.Sim
set_option linter.unusedVariables false
set_option linter.unusedSimpArgs false
namespace Go.Sim
open Go.RowKit
def gW (w : World) : Gh := { G := fun b => w.heap[b]?, ι := fun _ => none }
theorem inv_start (P : Program) (w : World) : Inv P (gW w) w { h := [], n := 0 } :=
  ⟨fun id ao h => by simp [look] at h, ⟨fun b o h => h, fun id loc h => by simp [gW] at h, fun id loc h => by simp [gW] at h, fun id id' loc loc' h => by simp [gW] at h⟩, fun id h => by simp [gW] at h, trivial⟩
theorem sim_calls {P : Program} {T : Tab} (hT : TabOK P T) (hmix : P.follows .mixedOrders = true) {f : FuncId} {args : List AV} {Args : Array Value} {d : Nat} {s' : Hp} {w : World} {x : Value} (hg : Value.ground x = true)
    (h : callF T (exec T d) 0 f args { h := [], n := 0 } = some (.v x, s')) (hx : TR (gW w) args Args.toList) : Calls P f Args w fun e w' => e = .returned x ∧ Below w.heap.size w w' := by
  have h1 := callF_ok (n := 0) (exec_sound hT hmix d) hT h hx (inv_start P w) (Nat.le_refl _)
  refine callsIn_wide.1 (CallsIn.mono (F := Fence.wide) h1 ?_)
  rintro e w' ⟨V, g', rfl, k1, k2, k3, k4⟩
  refine ⟨by rw [k1.ground], ⟨k3.os, k3.tape, k3.output, k3.size, fun b hb => k3.keep b hb (fun id loc _ hi => by simp [gW] at hi)⟩⟩
def seqB (P : Program) : List Field → Nat → Nat → Bool
  | [], off, m => off == m
  | f :: fs, off, m => f.offset == off && seqB P fs (off + P.cellsOf f.type) m
def plainTy (P : Program) : Nat → TypeId → Bool
  | 0, _ => false
  | d + 1, t =>
    match P.underlying t with
    | some .bool | some (.int _) | some .string => true
    | some (.slice e) => P.cellsOf e != 0 && plainTy P d e
    | some (.struct fs) => seqB P fs.toList 0 (P.cellsOf t) && fs.toList.all fun f => plainTy P d f.type
    | some (.array n e) => P.cellsOf t == n * P.cellsOf e && plainTy P d e
    | _ => false
def TyFs (F : TypeId → List AV → Prop) (P : Program) : List Field → List AV → Prop
  | [], cs => cs = []
  | f :: fs, cs => ∃ c1 c2, cs = c1 ++ c2 ∧ c1.length = P.cellsOf f.type ∧ F f.type c1 ∧ TyFs F P fs c2
def TyC (P : Program) : Nat → TypeId → List AV → Prop
  | 0, _, _ => False
  | d + 1, t, cs =>
    match P.underlying t with
    | some .bool => ∃ b, cs = [.v (.bool b)]
    | some (.int k) => ∃ n, cs = [.v (.int k n)] ∧ (Lit.int k n).wf = true
    | some .string => ∃ s : ByteArray, cs = [.v (.string s)] ∧ s.size ≤ maxLen
    | some (.slice e) => cs = [.v (.slice none 0 0)] ∨ ∃ els : List (List AV), cs = [.is (P.cellsOf e) els] ∧ els.length ≤ maxLen ∧ ∀ row ∈ els, row.length = P.cellsOf e ∧ TyC P d e row
    | some (.struct fs) => TyFs (TyC P d) P fs.toList cs
    | some (.array n e) => ∃ rows : List (List AV), cs = rows.flatten ∧ rows.length = n ∧ ∀ row ∈ rows, row.length = P.cellsOf e ∧ TyC P d e row
    | _ => False
theorem mapM_mem {α β : Type} {f : α → Option β} : ∀ {l : List α} {r : List β}, l.mapM f = some r → r.length = l.length ∧ ∀ (i : Nat) (x : α), l[i]? = some x → ∃ y, f x = some y ∧ r[i]? = some y
  | [], r, h => by
    simp at h
    subst h
    exact ⟨rfl, fun i x h => by simp at h⟩
  | a :: l, r, h => by
    simp only [List.mapM_cons, Option.bind_eq_bind, Option.bind_eq_some_iff, Option.pure_def, Option.some.injEq] at h
    obtain ⟨b, hb, bs, hbs, rfl⟩ := h
    obtain ⟨h1, h2⟩ := mapM_mem hbs
    refine ⟨by simp [h1], fun i x hi => ?_⟩
    cases i with
    | zero => simp at hi; subst hi; exact ⟨b, hb, rfl⟩
    | succ i => simp at hi; obtain ⟨y, k1, k2⟩ := h2 i x hi; exact ⟨y, k1, by simpa using k2⟩
theorem cells_get {w : World} {base : Nat} {a : Addr} {n : Nat} {cs : List Value} (h : w.cells? base a n = some cs) : cs.length = n ∧ ∀ i, i < n → w.cell? (a.add i) = cs[i]? := by
  unfold World.cells? at h
  split at h
  · obtain ⟨h1, h2⟩ := mapM_mem h
    refine ⟨by simpa using h1, fun i hi => ?_⟩
    obtain ⟨y, k1, k2⟩ := h2 i i (by simp [hi])
    rw [k1, k2]
  · cases h
theorem cell_gW {w : World} {a : Addr} {j : Nat} {y : Value} (h : w.cell? (a.add j) = some y) (hs : a.spot = none) : (gW w).cell a j = some y := by
  have ha : a.add j = ⟨a.block, a.off + j, none⟩ := by
    obtain ⟨b, o, s⟩ := a
    simp only at hs
    subst hs
    exact addr_add b o j
  rw [ha] at h
  unfold World.cell? at h
  split at h
  · rename_i c e fr hb
    simp only at hb
    simp only [Gh.cell, gW, hb]
    simpa using h
  · cases h
theorem choose_list {α : Type} {Q : Nat → α → Prop} : ∀ {n : Nat}, (∀ i, i < n → ∃ x, Q i x) → ∃ l : List α, l.length = n ∧ ∀ (i : Nat) (x : α), l[i]? = some x → Q i x
  | 0, _ => ⟨[], rfl, fun i x h => by simp at h⟩
  | n + 1, h => by
    obtain ⟨l, h1, h2⟩ := choose_list (n := n) (fun i hi => h i (by omega))
    obtain ⟨x, hx⟩ := h n (by omega)
    refine ⟨l ++ [x], by simp [h1], fun i y hy => ?_⟩
    rw [List.getElem?_append] at hy
    split at hy
    · exact h2 i y hy
    · rename_i hi
      have hil : i = n := by
        have := (List.getElem?_eq_some_iff.1 hy).1
        simp at this
        omega
      subst hil
      simp [h1] at hy
      subst hy
      exact hx
theorem TR.of_parts {g : Gh} {c1 c2 : List AV} {C : List Value} {k : Nat} (h1 : TR g c1 (C.take k)) (h2 : TR g c2 (C.drop k)) : TR g (c1 ++ c2) C := by
  have := h1.app h2
  rwa [List.take_append_drop] at this
section
variable {H : Type} {enc : TypeId × Value → H} {P : Program} {w : World} {held : Bool}
def Rd (P : Program) (w : World) (D : Nat) (t : TypeId) (Cs : List Value) : Prop := ∃ cs, TR (gW w) cs Cs ∧ TyC P D t cs ∧ ∀ y ∈ Cs, isCell y = true
theorem read_fields {D fuel : Nat} (IH : ∀ t Cs dd ps, DataW.trod enc P w 0 (fun _ => true) held fuel t Cs = some (dd, ps) → plainTy P D t = true → Rd P w D t Cs) : ∀ (fs : List Field) (off m : Nat) (Cs : List Value) (xs : List (DataW H × List MemPlace)),
    fs.mapM (fun f => DataW.trod enc P w 0 (fun _ => true) held fuel f.type ((Cs.drop f.offset).take (P.cellsOf f.type))) = some xs → seqB P fs off m = true → (fs.all fun f => plainTy P D f.type) = true → Cs.length = m →
    ∃ cs, TR (gW w) cs (Cs.drop off) ∧ TyFs (TyC P D) P fs cs ∧ (∀ y ∈ Cs.drop off, isCell y = true) ∧ off ≤ m
  | [], off, m, Cs, xs, h, hs, hp, hl => by
    simp only [seqB, beq_iff_eq] at hs
    subst hs
    have : Cs.drop off = [] := by rw [List.drop_eq_nil_iff]; omega
    rw [this]
    exact ⟨[], .nil _, rfl, fun y h => by simp at h, Nat.le_refl _⟩
  | f :: fs, off, m, Cs, xs, h, hs, hp, hl => by
    simp only [List.mapM_cons, Option.bind_eq_bind, Option.bind_eq_some_iff, Option.pure_def, Option.some.injEq] at h
    obtain ⟨b, hb, bs, hbs, rfl⟩ := h
    simp only [seqB, Bool.and_eq_true, beq_iff_eq] at hs
    obtain ⟨rfl, hs⟩ := hs
    simp only [List.all_cons, Bool.and_eq_true] at hp
    obtain ⟨cs2, k1, k2, k3, k4⟩ := read_fields IH fs (f.offset + P.cellsOf f.type) m Cs bs hbs hs hp.2 hl
    obtain ⟨cs1, q1, q2, q3⟩ := IH f.type _ b.1 b.2 hb hp.1
    have hd : (Cs.drop f.offset).drop (P.cellsOf f.type) = Cs.drop (f.offset + P.cellsOf f.type) := by rw [List.drop_drop]
    refine ⟨cs1 ++ cs2, TR.of_parts q1 (by rw [hd]; exact k1), ⟨cs1, cs2, rfl, ?_, q2, k2⟩, fun y hy => ?_, by omega⟩
    · rw [q1.1, List.length_take, List.length_drop]
      omega
    · rw [← List.take_append_drop (P.cellsOf f.type) (Cs.drop f.offset), hd, List.mem_append] at hy
      rcases hy with hy | hy
      · exact q3 y hy
      · exact k3 y hy
theorem trod_bool {fuel : Nat} {t : TypeId} {Cs : List Value} {x : DataW H × List MemPlace} (hu : P.underlying t = some .bool) (h : DataW.trod enc P w 0 (fun _ => true) held (fuel + 1) t Cs = some x) : ∃ b, Cs = [.bool b] := by
  unfold DataW.trod at h
  rw [hu] at h
  split at h <;> simp_all
theorem trod_int {fuel : Nat} {t : TypeId} {Cs : List Value} {k : IntKind} {x : DataW H × List MemPlace} (hu : P.underlying t = some (.int k)) (h : DataW.trod enc P w 0 (fun _ => true) held (fuel + 1) t Cs = some x) : ∃ n, Cs = [.int k n] ∧ (Lit.int k n).wf = true := by
  unfold DataW.trod at h
  rw [hu] at h
  split at h <;> simp_all
theorem trod_string {fuel : Nat} {t : TypeId} {Cs : List Value} {x : DataW H × List MemPlace} (hu : P.underlying t = some .string) (h : DataW.trod enc P w 0 (fun _ => true) held (fuel + 1) t Cs = some x) : ∃ s : ByteArray, Cs = [.string s] ∧ s.size ≤ maxLen := by
  unfold DataW.trod at h
  rw [hu] at h
  split at h <;> simp_all
theorem trod_struct {fuel : Nat} {t : TypeId} {fs : Array Field} {Cs : List Value} {x : DataW H × List MemPlace} (hu : P.underlying t = some (.struct fs)) (h : DataW.trod enc P w 0 (fun _ => true) held (fuel + 1) t Cs = some x) :
    Cs.length = P.cellsOf t ∧ ∃ xs, fs.toList.mapM (fun f => DataW.trod enc P w 0 (fun _ => true) held fuel f.type ((Cs.drop f.offset).take (P.cellsOf f.type))) = some xs := by
  unfold DataW.trod at h
  rw [hu] at h
  split at h <;> simp_all
  obtain ⟨_, y, h, _⟩ := h
  exact ⟨y, h⟩
theorem trod_array {fuel n : Nat} {t e : TypeId} {Cs : List Value} {x : DataW H × List MemPlace} (hu : P.underlying t = some (.array n e)) (h : DataW.trod enc P w 0 (fun _ => true) held (fuel + 1) t Cs = some x) :
    Cs.length = P.cellsOf t ∧ ∃ xs, (List.range n).mapM (fun i => DataW.trod enc P w 0 (fun _ => true) held fuel e ((Cs.drop (i * P.cellsOf e)).take (P.cellsOf e))) = some xs := by
  unfold DataW.trod at h
  rw [hu] at h
  split at h <;> simp_all
  obtain ⟨_, y, h, _⟩ := h
  exact ⟨y, h⟩
theorem trod_slice {fuel : Nat} {t e : TypeId} {Cs : List Value} {x : DataW H × List MemPlace} (hu : P.underlying t = some (.slice e)) (h : DataW.trod enc P w 0 (fun _ => true) held (fuel + 1) t Cs = some x) :
    Cs = [.slice none 0 0] ∨ ∃ a len cap, Cs = [.slice (some a) len cap] ∧ len ≤ cap ∧ cap ≤ maxLen ∧ ∀ i, i < cap → ∃ row y, w.cells? 0 (a.add (i * P.cellsOf e)) (P.cellsOf e) = some row ∧ DataW.trod enc P w 0 (fun _ => true) held fuel e row = some y := by
  unfold DataW.trod at h
  rw [hu] at h
  split at h
  all_goals first | (simp_all; done) | skip
  rename_i e' a len cap he
  cases he
  right
  simp only at h
  split at h
  · rename_i hc
    obtain ⟨_, c1, c2⟩ := hc
    simp only [Option.bind_eq_some_iff, if_true, Option.map_eq_some_iff] at h
    obtain ⟨elems, h1, rest, h2, _⟩ := h
    refine ⟨a, len, cap, rfl, c1, c2, fun i hi => ?_⟩
    by_cases hil : i < len
    · obtain ⟨y, k1, _⟩ := (mapM_mem h1).2 i i (List.getElem?_range hil)
      simp only [Option.bind_eq_some_iff] at k1
      obtain ⟨row, k1, k2⟩ := k1
      exact ⟨row, y, k1, k2⟩
    · obtain ⟨y, k1, _⟩ := (mapM_mem h2).2 (i - len) (i - len) (List.getElem?_range (by omega))
      have e1 : len + (i - len) = i := by omega
      rw [e1] at k1
      simp only [Option.bind_eq_some_iff] at k1
      obtain ⟨row, k1, k2⟩ := k1
      exact ⟨row, y, k1, k2⟩
  · cases h
theorem read_ok : ∀ (D fuel : Nat) (t : TypeId) (Cs : List Value) (dd : DataW H) (ps : List MemPlace), DataW.trod enc P w 0 (fun _ => true) held fuel t Cs = some (dd, ps) → plainTy P D t = true → Rd P w D t Cs
  | 0, _, _, _, _, _, _, hp => by simp [plainTy] at hp
  | D + 1, 0, _, _, _, _, h, _ => by simp [DataW.trod] at h
  | D + 1, fuel + 1, t, Cs, dd, ps, h, hp => by
    have IH := fun t Cs dd ps => read_ok D fuel t Cs dd ps
    have one : ∀ {x : AV} {y : Value}, VR (gW w) x y → isCell y = true → TyC P (D + 1) t [x] → Rd P w (D + 1) t [y] := fun h1 h2 h3 =>
      ⟨_, .cons h1 (.nil _), h3, fun y hy => by simp at hy; subst hy; exact h2⟩
    unfold plainTy at hp
    split at hp
    · rename_i hu
      obtain ⟨b, rfl⟩ := trod_bool hu h
      exact one (.v rfl) rfl (by simp [TyC, hu])
    · rename_i k hu
      obtain ⟨n, rfl, hn⟩ := trod_int hu h
      exact one (.v rfl) rfl (by simp [TyC, hu]; exact hn)
    · rename_i hu
      obtain ⟨s, rfl, hs⟩ := trod_string hu h
      exact one (.v rfl) rfl (by simp [TyC, hu]; exact hs)
    · rename_i e hu
      simp only [Bool.and_eq_true, bne_iff_ne, ne_eq] at hp
      obtain ⟨h0, hp⟩ := hp
      rcases trod_slice hu h with rfl | ⟨a, len, cap, rfl, c1, c2, hget⟩
      · exact one (x := .v (.slice none 0 0)) (.v rfl) rfl (by simp [TyC, hu])
      · by_cases hc0 : cap = 0
        · have hl0 : len = 0 := by omega
          subst hc0; subst hl0
          exact one (x := .is (P.cellsOf e) []) .is0 rfl (by simp [TyC, hu])
        · have hrow : ∀ i, i < cap → ∃ row : List AV, row.length = P.cellsOf e ∧ TyC P D e row ∧ a.spot = none ∧ ∀ (j : Nat) (x : AV), row[j]? = some x → ∃ y, (gW w).cell a (i * P.cellsOf e + j) = some y ∧ isCell y = true ∧ VR (gW w) x y := by
            intro i hi
            obtain ⟨row, y, k1, k2⟩ := hget i hi
            obtain ⟨l1, l2⟩ := cells_get k1
            obtain ⟨cs, q1, q2, q3⟩ := IH e row y.1 y.2 k2 hp
            have hs : a.spot = none := by
              have h1 := l2 0 (by omega)
              have h2 : row[0]? = some row[0] := by simp
              rw [h2] at h1
              have h3 := World.cell?_spot h1
              unfold Addr.add at h3
              split at h3
              · split at h3
                · exact h3
                · rename_i hne
                  obtain ⟨y0, _, k0, _⟩ := hget 0 (by omega)
                  obtain ⟨l3, l4⟩ := cells_get k0
                  have h5 := l4 0 (by omega)
                  have h6 : y0[0]? = some y0[0] := by simp
                  rw [h6] at h5
                  have h7 := World.cell?_spot h5
                  simpa [Addr.add] using h7
              · obtain ⟨y0, _, k0, _⟩ := hget 0 (by omega)
                obtain ⟨l3, l4⟩ := cells_get k0
                have h5 := l4 0 (by omega)
                have h6 : y0[0]? = some y0[0] := by simp
                rw [h6] at h5
                have h7 := World.cell?_spot h5
                simpa [Addr.add] using h7
            refine ⟨cs, by rw [q1.1, l1], q2, hs, fun j x hx => ?_⟩
            have hj : j < row.length := by rw [← q1.1]; exact (List.getElem?_eq_some_iff.1 hx).1
            have hc := l2 j (by omega)
            have hrj : row[j]? = some row[j] := by simp
            rw [hrj] at hc
            have ha : (a.add (i * P.cellsOf e)).add j = a.add (i * P.cellsOf e + j) := by
              obtain ⟨b, o, s⟩ := a
              simp only at hs
              subst hs
              rw [addr_add, addr_add, addr_add, Nat.add_assoc]
            rw [ha] at hc
            exact ⟨row[j], cell_gW hc hs, q3 _ (by simp), q1.2 j x _ hx hrj⟩
          obtain ⟨els, e1, e2⟩ := choose_list (n := len) (fun i hi => hrow i (by omega))
          obtain ⟨_, _, _, hs, _⟩ := hrow 0 (by omega)
          have hv : VR (gW w) (.is (P.cellsOf e) els) (.slice (some a) els.length cap) :=
            .is hs (by omega) (fun i row hr => (e2 i row hr).1) (fun i row j x hr hx => by
              obtain ⟨y, y1, y2, _⟩ := (e2 i row hr).2.2.2 j x hx
              exact ⟨y, y1, y2⟩) (fun i row j x y hr hx hy => by
              obtain ⟨y', y1, y2, y3⟩ := (e2 i row hr).2.2.2 j x hx
              rw [hy] at y1
              cases y1
              exact y3)
          rw [e1] at hv
          refine one hv rfl ?_
          simp only [TyC, hu]
          refine .inr ⟨els, rfl, by omega, fun row hr => ?_⟩
          obtain ⟨i, hi⟩ := List.mem_iff_getElem?.1 hr
          exact ⟨(e2 i row hi).1, (e2 i row hi).2.1⟩
    · rename_i fs hu
      simp only [Bool.and_eq_true] at hp
      obtain ⟨hl, xs, hxs⟩ := trod_struct hu h
      obtain ⟨cs, k1, k2, k3, _⟩ := read_fields IH fs.toList 0 (P.cellsOf t) Cs xs hxs hp.1 hp.2 hl
      exact ⟨cs, by simpa using k1, by simpa only [TyC, hu] using k2, by simpa using k3⟩
    · rename_i n e hu
      simp only [Bool.and_eq_true, beq_iff_eq] at hp
      obtain ⟨hl, xs, hxs⟩ := trod_array hu h
      rw [hp.1] at hl
      have hrow : ∀ i, i < n → ∃ row : List AV, TR (gW w) row ((Cs.drop (i * P.cellsOf e)).take (P.cellsOf e)) ∧ TyC P D e row ∧ ∀ y ∈ (Cs.drop (i * P.cellsOf e)).take (P.cellsOf e), isCell y = true := by
        intro i hi
        obtain ⟨y, y1, _⟩ := (mapM_mem hxs).2 i i (by simp [hi])
        exact IH e _ y.1 y.2 y1 hp.2
      obtain ⟨rows, r1, r2⟩ := choose_list hrow
      have hlen : ∀ row ∈ rows, row.length = P.cellsOf e := by
        intro row hr
        obtain ⟨i, hi⟩ := List.mem_iff_getElem?.1 hr
        have hin : i < n := by rw [← r1]; exact (List.getElem?_eq_some_iff.1 hi).1
        rw [(r2 i row hi).1.1, List.length_take, List.length_drop, hl]
        have : (i + 1) * P.cellsOf e ≤ n * P.cellsOf e := Nat.mul_le_mul_right _ hin
        rw [Nat.succ_mul] at this
        omega
      have key : ∀ (m : Nat) (rs : List (List AV)), rs.length = m → (∀ (i : Nat) (row : List AV), rs[i]? = some row → TR (gW w) row ((Cs.drop ((n - m + i) * P.cellsOf e)).take (P.cellsOf e)) ∧ ∀ y ∈ (Cs.drop ((n - m + i) * P.cellsOf e)).take (P.cellsOf e), isCell y = true) → m ≤ n →
          TR (gW w) rs.flatten (Cs.drop ((n - m) * P.cellsOf e)) ∧ ∀ y ∈ Cs.drop ((n - m) * P.cellsOf e), isCell y = true := by
        intro m
        induction m with
        | zero =>
          intro rs hrs _ _
          have : rs = [] := by cases rs; rfl; simp at hrs
          subst this
          have : Cs.drop ((n - 0) * P.cellsOf e) = [] := by rw [List.drop_eq_nil_iff, hl]; simp
          rw [this]
          exact ⟨.nil _, fun y h => by simp at h⟩
        | succ m ih =>
          intro rs hrs hr hm
          cases rs with
          | nil => simp at hrs
          | cons row rs =>
            have h0 := hr 0 row rfl
            rw [Nat.add_zero] at h0
            have hrest := ih rs (by simpa using hrs) (fun i row' hi => by
              have := hr (i + 1) row' (by simpa using hi)
              have e1 : n - (m + 1) + (i + 1) = n - m + i := by omega
              rwa [e1] at this) (by omega)
            have hd : (Cs.drop ((n - (m + 1)) * P.cellsOf e)).drop (P.cellsOf e) = Cs.drop ((n - m) * P.cellsOf e) := by
              rw [List.drop_drop]
              congr 1
              have : n - m = n - (m + 1) + 1 := by omega
              rw [this, Nat.succ_mul]
            refine ⟨by simpa using TR.of_parts h0.1 (by rw [hd]; exact hrest.1), fun y hy => ?_⟩
            rw [← List.take_append_drop (P.cellsOf e) (Cs.drop ((n - (m + 1)) * P.cellsOf e)), hd, List.mem_append] at hy
            rcases hy with hy | hy
            · exact h0.2 y hy
            · exact hrest.2 y hy
      have hk := key n rows r1 (fun i row hi => by
        have e1 : n - n + i = i := by omega
        rw [e1]
        exact ⟨(r2 i row hi).1, (r2 i row hi).2.2⟩) (Nat.le_refl _)
      simp only [Nat.sub_self, Nat.zero_mul, List.drop_zero] at hk
      refine ⟨rows.flatten, hk.1, ?_, hk.2⟩
      simp only [TyC, hu]
      refine ⟨rows, rfl, r1, fun row hr => ⟨hlen row hr, ?_⟩⟩
      obtain ⟨i, hi⟩ := List.mem_iff_getElem?.1 hr
      exact (r2 i row hi).2.1
    · cases hp
end
end Go.Sim
set_option linter.unusedVariables false
set_option linter.unusedSimpArgs false
namespace Go.Sim
section
variable {T : Tab} {ex ex' : Nat → Bool → IC → St → Option (Ex × St)}
def MonoX (ex ex' : Nat → Bool → IC → St → Option (Ex × St)) : Prop := ∀ lim rd c σ r, ex lim rd c σ = some r → ex' lim rd c σ = some r
theorem mono_body (hx : MonoX ex ex') {lim : Nat} {fn : IFn} {args : List AV} {s : Hp} {r : AV × Hp} (h : body ex lim fn args s = some r) : body ex' lim fn args s = some r := by
  unfold body at h ⊢
  split at h
  · cases h
  · rename_i e σ hne he
    rw [hx _ _ _ _ _ he]
    cases e with
    | exit id => exact absurd rfl (hne id)
    | normal => exact h
    | ret => exact h
  · cases h
theorem mono_callF (hx : MonoX ex ex') {lim : Nat} {f : FuncId} {args : List AV} {s : Hp} {r : AV × Hp} (h : callF T ex lim f args s = some r) : callF T ex' lim f args s = some r := by
  unfold callF at h ⊢
  split at h
  · cases h
  · rename_i fn hfn
    (try simp only [hfn])
    split at h
    · rename_i hp
      rw [if_pos hp]
      split at h
      · rename_i hc
        rw [if_pos hc]
        split at h
        · rename_i hb; rw [mono_body hx hb]; exact h
        · cases h
      · rename_i hc
        rw [if_neg hc]
        split at h
        · rename_i hz
          rw [if_pos hz]
          split at h
          · rename_i as hfa
            (try simp only [hfa])
            split at h
            · rename_i hb; rw [mono_body hx hb]; exact h
            · cases h
          · cases h
        · rename_i hz
          rw [if_neg hz]
          split at h
          · rename_i hb; rw [mono_body hx hb]; exact h
          · cases h
    · rename_i hp
      rw [if_neg hp]
      exact mono_body hx h
theorem mono_round (hx : MonoX ex ex') {lim l : Nat} {args : List AV} {s : Hp} {r : AV × Hp} (h : round ex lim l args s = some r) : round ex' lim l args s = some r := by
  unfold Sim.round at h ⊢
  split at h
  · rename_i hL
    (try simp only [hL])
    split at h
    · rename_i hc
      rw [if_pos hc]
      split at h
      · rename_i σ ha
        rw [hx _ _ _ _ _ ha]
        simp only
        split at h
        · rename_i hL2
          (try simp only [hL2])
          split at h
          · rename_i hb; rw [hx _ _ _ _ _ hb]; exact h
          · rename_i hb; rw [hx _ _ _ _ _ hb]; exact h
          · rename_i hb; rw [hx _ _ _ _ _ hb]; exact h
          · cases h
        · cases h
      · cases h
    · cases h
  · cases h
theorem mono_step (hx : MonoX ex ex') {lim : Nat} {k : OpK} {xs : List AV} {s : Hp} {r : AV × Hp} (h : step T ex lim k xs s = some r) : step T ex' lim k xs s = some r := by
  unfold step at h ⊢
  split at h
  · exact mono_callF hx h
  · split at h
    · unfold callV at h ⊢
      split at h
      · exact mono_callF hx h
      · exact mono_round hx h
      · cases h
    · cases h
  · exact h
theorem mono_runOps (hx : MonoX ex ex') {lim : Nat} : ∀ {os : List Sim.Op1} {σ τ : St}, runOps T ex lim os σ = some τ → runOps T ex' lim os σ = some τ
  | [], σ, τ, h => h
  | o :: os, σ, τ, h => by
    simp only [runOps] at h ⊢
    split at h
    · rename_i hw
      rw [if_pos hw]
      split at h
      · rename_i hxs
        (try simp only [hxs])
        split at h
        · rename_i hst
          simp only [mono_step hx hst]
          exact mono_runOps hx h
        · cases h
      · cases h
    · rename_i hw
      rw [if_neg hw]
      exact mono_runOps hx h
theorem mono_runFoot (hx : MonoX ex ex') {lim : Nat} {before : List Nat} : ∀ {os : List Sim.Op1} {j : Nat} {fs : List Foot} {σ : St} {r : St × List Foot}, runFoot T ex lim before os j fs σ = some r → runFoot T ex' lim before os j fs σ = some r
  | [], j, fs, σ, r, h => h
  | o :: os, j, fs, σ, r, h => by
    simp only [runFoot] at h ⊢
    split at h
    · rename_i hw
      rw [if_pos hw]
      split at h
      · rename_i hxs
        (try simp only [hxs])
        split at h
        · rename_i ha
          rw [if_pos ha]
          split at h
          · rename_i hst
            simp only [mono_step hx hst]
            exact mono_runFoot hx h
          · cases h
        · rename_i ha
          rw [if_neg ha]
          split at h
          · rename_i hst
            simp only [mono_step hx hst]
            exact mono_runFoot hx h
          · cases h
      · cases h
    · rename_i hw
      rw [if_neg hw]
      exact mono_runFoot hx h
theorem mono_exec (T : Tab) : ∀ d, MonoX (exec T d) (exec T (d + 1))
  | 0, lim, rd, c, σ, r, h => by simp [exec] at h
  | d + 1, lim, rd, c, σ, r, h => by
    have ih := mono_exec T d
    cases c with
    | skip => simpa only [exec] using h
    | reg ops =>
      simp only [exec, Option.map_eq_some_iff] at h
      obtain ⟨τ, h, rfl⟩ := h
      rw [exec, mono_runOps ih h]
      rfl
    | regD ops before =>
      rw [exec] at h ⊢
      split at h
      · rename_i hf
        rw [mono_runFoot ih hf]
        exact h
      · cases h
    | seq a b =>
      rw [exec] at h ⊢
      split at h
      · rename_i ha
        rw [ih _ _ _ _ _ ha]
        exact ih _ _ _ _ _ h
      · rename_i hne
        have h2 := ih _ _ _ _ _ h
        rw [h2]
        obtain ⟨e, τ⟩ := r
        cases e with
        | normal => exact absurd h (hne τ)
        | ret => rfl
        | exit id => rfl
    | cond c a b =>
      rw [exec] at h ⊢
      split at h
      · rename_i hc
        (try simp only [hc])
        exact ih _ _ _ _ _ h
      · cases h
    | block id c =>
      rw [exec] at h ⊢
      split at h
      · rename_i ha
        rw [ih _ _ _ _ _ ha]
        exact h
      · rename_i hne
        have h2 := ih _ _ _ _ _ h
        rw [h2]
        obtain ⟨e, τ⟩ := r
        cases e with
        | normal => rfl
        | ret => rfl
        | exit id => exact absurd h (hne _ _)
    | loop c =>
      rw [exec] at h ⊢
      split at h
      · rename_i ha
        rw [ih _ _ _ _ _ ha]
        exact ih _ _ _ _ _ h
      · rename_i e τ hne ha
        rw [ih _ _ _ _ _ ha]
        cases e with
        | normal => exact (hne rfl).elim
        | ret => exact h
        | exit id => exact h
      · cases h
    | rangeF f ps a b =>
      rw [exec] at h ⊢
      split at h
      · cases h
      · rename_i hrd
        rw [if_neg hrd]
        split at h
        · rename_i hev
          (try simp only [hev])
          split at h
          · rename_i hc
            simp only [mono_callF ih hc]
            exact h
          · cases h
        · cases h
    | exit id => simpa only [exec] using h
    | ret => simpa only [exec] using h
theorem mono_le (T : Tab) {d d' : Nat} (h : d ≤ d') : MonoX (exec T d) (exec T d') := by
  induction h with
  | refl => exact fun _ _ _ _ _ h => h
  | step _ ih => exact fun _ _ _ _ _ h => mono_exec T _ _ _ _ _ _ (ih _ _ _ _ _ h)
end
end Go.Sim
namespace Go.Sim
def AllOK (P : Program) : Nat → List (Option IFn) → Prop
  | _, [] => True
  | i, none :: r => AllOK P (i + 1) r
  | i, some ifn :: r => (∃ fn, P.funcs[i]? = some fn ∧ compFn P fn ifn.pure ifn.frz = some ifn) ∧ AllOK P (i + 1) r
theorem AllOK.get {P : Program} : ∀ {l : List (Option IFn)} {i j : Nat} {ifn : IFn}, AllOK P i l → l[j]? = some (some ifn) → ∃ fn, P.funcs[i + j]? = some fn ∧ compFn P fn ifn.pure ifn.frz = some ifn
  | [], i, j, ifn, _, h => by simp at h
  | none :: r, i, j, ifn, h, hj => by
    cases j with
    | zero => simp at hj
    | succ j =>
      have := AllOK.get (l := r) h (by simpa using hj)
      rwa [show i + 1 + j = i + (j + 1) by omega] at this
  | some x :: r, i, j, ifn, h, hj => by
    cases j with
    | zero =>
      simp at hj
      subst hj
      exact h.1
    | succ j =>
      have := AllOK.get (l := r) h.2 (by simpa using hj)
      rwa [show i + 1 + j = i + (j + 1) by omega] at this
theorem AllOK.tab {P : Program} {l : List (Option IFn)} (h : AllOK P 0 l) : TabOK P (fun f => (l[f]?).join) := by
  intro f ifn hf
  have : l[f]? = some (some ifn) := by
    cases hl : l[f]? with
    | none => simp [hl] at hf
    | some x => simp [hl] at hf; rw [hf]
  have h2 := AllOK.get h this
  rwa [Nat.zero_add] at h2
end Go.Sim
set_option linter.unusedVariables false
set_option linter.unusedSimpArgs false
namespace Go.Sim
open Go.RowKit Go.ChangeShapes Go.WideShapes
section
variable {H : Type} {enc : TypeId × Value → H} {P : Program} {W W' : World}
theorem cell_lt {a : Addr} {y : Value} (h : W.cell? a = some y) : a.block < W.heap.size := by
  unfold World.cell? at h
  split at h
  · rename_i hb
    exact (Array.getElem?_eq_some_iff.1 hb).1
  · cases h
theorem cells_keep (hb : Below W.heap.size W W') {a : Addr} {n : Nat} {cs : List Value} (h : W.cells? 0 a n = some cs) : W'.cells? 0 a n = some cs := by
  unfold World.cells? at h ⊢
  simp only [Nat.zero_le, if_true] at h ⊢
  exact mapM_mono (fun x y hxy => by rw [hb.cell (cell_lt hxy)]; exact hxy) h
theorem mapM_keep {α β : Type} {f g : α → Option β} : ∀ {l : List α} {r : List β}, l.mapM f = some r → (∀ x y, x ∈ l → y ∈ r → f x = some y → g x = some y) → l.mapM g = some r
  | [], r, h, _ => by simpa using h
  | a :: l, r, h, hk => by
    simp only [List.mapM_cons, Option.bind_eq_bind, Option.bind_eq_some_iff, Option.pure_def, Option.some.injEq] at h
    obtain ⟨b, hb, bs, hbs, rfl⟩ := h
    have h1 := mapM_keep hbs (fun x y hx hy => hk x y (by simp [hx]) (by simp [hy]))
    have h2 := hk a b (by simp) (by simp) hb
    simp [List.mapM_cons, h1, h2]
theorem trod_keep (hb : Below W.heap.size W W') {held : Bool} {sp : Nat → Bool} : ∀ (fuel D : Nat) (t : TypeId) (cs : List Value) (x : DataW H × List MemPlace), plainTy P D t = true →
    DataW.trod enc P W 0 (fun _ => true) held fuel t cs = some x → (∀ q ∈ x.2, sp q.block = true) → DataW.trod enc P W' 0 sp held fuel t cs = some x
  | 0, _, _, _, _, _, h, _ => by simp [DataW.trod] at h
  | fuel + 1, 0, _, _, _, hp, _, _ => by simp [plainTy] at hp
  | fuel + 1, D + 1, t, cs, x, hp, h, hs => by
    have IH := trod_keep hb (held := held) (sp := sp) fuel D
    unfold plainTy at hp
    split at hp
    · rename_i hu
      unfold DataW.trod at h ⊢
      rw [hu] at h ⊢
      split at h <;> simp_all
    · rename_i k hu
      unfold DataW.trod at h ⊢
      rw [hu] at h ⊢
      split at h <;> simp_all
    · rename_i hu
      unfold DataW.trod at h ⊢
      rw [hu] at h ⊢
      split at h <;> simp_all
    · rename_i e hu
      simp only [Bool.and_eq_true, bne_iff_ne, ne_eq] at hp
      obtain ⟨h0, hp⟩ := hp
      unfold DataW.trod at h ⊢
      rw [hu] at h ⊢
      split at h
      all_goals first | (simp_all; done) | skip
      rename_i e' a len cap he
      cases he
      simp only at h ⊢
      split at h
      · rename_i hc
        rw [if_pos hc]
        simp only [Option.bind_eq_some_iff, if_true, Option.map_eq_some_iff] at h
        obtain ⟨elems, h1, rest, h2, rfl⟩ := h
        simp only [List.mem_append] at hs
        have el : ∀ (i : Nat) (y : DataW H × List MemPlace), (y ∈ elems ∨ y ∈ rest) → ((W.cells? 0 (a.add (i * P.cellsOf e)) (P.cellsOf e)).bind (DataW.trod enc P W 0 (fun _ => true) held fuel e)) = some y →
            ((W'.cells? 0 (a.add (i * P.cellsOf e)) (P.cellsOf e)).bind (DataW.trod enc P W' 0 sp held fuel e)) = some y := by
          intro i y hy h
          simp only [Option.bind_eq_some_iff] at h ⊢
          obtain ⟨row, k1, k2⟩ := h
          refine ⟨row, cells_keep hb k1, IH e row y hp k2 (fun q hq => hs q (Or.inr ?_))⟩
          rw [List.mem_flatMap]
          exact ⟨y, by simpa using hy, hq⟩
        have h1' := mapM_keep h1 (g := fun i => (W'.cells? 0 (a.add (i * P.cellsOf e)) (P.cellsOf e)).bind (DataW.trod enc P W' 0 sp held fuel e)) (fun i y _ hy h => el i y (Or.inl hy) h)
        have h2' := mapM_keep h2 (g := fun j => (W'.cells? 0 (a.add ((len + j) * P.cellsOf e)) (P.cellsOf e)).bind (DataW.trod enc P W' 0 sp held fuel e)) (fun i y _ hy h => el (len + i) y (Or.inr hy) h)
        rw [h1']
        simp only [Option.bind_some]
        by_cases hcap : cap = 0
        · have : cap - len = 0 := by omega
          rw [this] at h2 h2' ⊢
          have : rest = [] := by simpa using h2.symm
          subst this
          split <;> simp
        · have hsp : sp a.block = true := by
            have hlen : elems.length + rest.length = cap := by
              have e1 := (mapM_mem h1).1
              have e2 := (mapM_mem h2).1
              simp at e1 e2
              omega
            refine hs (.cell a.block (a.off + 0)) (Or.inl ?_)
            unfold MemPlace.row
            rw [List.mem_map]
            refine ⟨0, ?_, rfl⟩
            rw [List.mem_range, hlen]
            exact Nat.mul_pos (by omega) (by omega)
          rw [if_pos hsp, h2']
          rfl
      · cases h
    · rename_i fs hu
      simp only [Bool.and_eq_true] at hp
      unfold DataW.trod at h ⊢
      rw [hu] at h ⊢
      split at h
      all_goals first | (simp_all; done) | skip
      rename_i fs' he
      cases he
      split at h
      · rename_i hc
        rw [if_pos hc]
        simp only [Option.map_eq_some_iff] at h ⊢
        obtain ⟨xs, h1, rfl⟩ := h
        refine ⟨xs, mapM_keep h1 (fun f y hf hy h => IH f.type _ y ?_ h (fun q hq => hs q ?_)), rfl⟩
        · exact List.all_eq_true.1 hp.2 f hf
        · rw [List.mem_flatMap]
          exact ⟨y, hy, hq⟩
      · cases h
    · rename_i n e hu
      simp only [Bool.and_eq_true, beq_iff_eq] at hp
      unfold DataW.trod at h ⊢
      rw [hu] at h ⊢
      split at h
      all_goals first | (simp_all; done) | skip
      rename_i n' e' he
      cases he
      split at h
      · rename_i hc
        rw [if_pos hc]
        simp only [Option.map_eq_some_iff] at h ⊢
        obtain ⟨xs, h1, rfl⟩ := h
        refine ⟨xs, mapM_keep h1 (fun i y hi hy h => IH e _ y hp.2 h (fun q hq => hs q ?_)), rfl⟩
        rw [List.mem_flatMap]
        exact ⟨y, hy, hq⟩
      · cases h
    · cases hp
theorem trodAll_keep (hb : Below W.heap.size W W') {held : Bool} {sp : Nat → Bool} {D : Nat} : ∀ (ts : List TypeId) (vs : List Value) (ds : List (DataW H)) (ps : List MemPlace), (ts.all fun t => plainTy P D t) = true →
    DataW.TrodAll enc P W 0 (fun _ => true) held ts vs ds ps → (∀ q ∈ ps, sp q.block = true) → DataW.TrodAll enc P W' 0 sp held ts vs ds ps
  | [], vs, ds, ps, _, h, _ => by
    match vs, ds, h with
    | [], [], h => exact h
  | t :: ts, vs, ds, ps, hp, h, hs => by
    match vs, ds, h with
    | v :: vs, d :: ds, h =>
      obtain ⟨p, q, ⟨fuel, h1⟩, h2, rfl⟩ := h
      simp only [List.all_cons, Bool.and_eq_true] at hp
      exact ⟨p, q, ⟨fuel, trod_keep hb fuel D t _ _ hp.1 h1 (fun x hx => hs x (by simp [hx]))⟩, trodAll_keep hb ts vs ds q hp.2 h2 (fun x hx => hs x (by simp [hx])), rfl⟩
def ArgR (P : Program) (W : World) (D : Nat) (t : TypeId) (x : AV) (V : Value) : Prop :=
  VR (gW W) x V ∧ ∃ cs, TyC P D t cs ∧ x = (if isAggB P t then .agg cs else cs.headD .undef)
theorem arg_ok {D fuel : Nat} {t : TypeId} {V : Value} {x : DataW H × List MemPlace} (hok : (∃ cs, V = .agg cs) ↔ isAggB P t = true) (hnt : ∀ cs, V ≠ .tuple cs) (hp : plainTy P D t = true)
    (h : DataW.trod enc P W 0 (fun _ => true) true fuel t V.cells.toList = some x) : ∃ y, ArgR P W D t y V := by
  obtain ⟨cs, h1, h2, h3⟩ := read_ok D fuel t _ x.1 x.2 h hp
  by_cases ha : isAggB P t = true
  · obtain ⟨Cs, rfl⟩ := hok.2 ha
    refine ⟨.agg cs, .agg (by simpa [Value.cells] using h1.1) (fun i y hy => h3 y ?_) (fun i x y hx hy => h1.2 i x y hx (by simpa [Value.cells] using hy)), cs, h2, by rw [if_pos ha]⟩
    simp only [Value.cells]
    exact List.mem_of_getElem? (by simpa using hy)
  · have hne : ∀ Cs, V ≠ .agg Cs := fun Cs e => ha (hok.1 ⟨Cs, e⟩)
    have hc : V.cells = #[V] := by cases V <;> simp_all [Value.cells]
    rw [hc] at h1
    have hl := h1.1
    match cs, hl, h1, h2 with
    | [c], _, h1, h2 => exact ⟨c, h1.head, [c], h2, by rw [if_neg ha]; rfl⟩
end
end Go.Sim
