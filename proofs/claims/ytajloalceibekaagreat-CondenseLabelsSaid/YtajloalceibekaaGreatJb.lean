import Derived.Test.YtajloalceibekaaGreatPl
import Derived.Test.YtajloalceibekaaGreatTb
import Derived.Test.YtajloalceibekaaGreatRows
import Derived.KernelRfl
/- A text of the proof. -/
set_option linter.all false
set_option maxRecDepth 100000
set_option maxHeartbeats 2000000
namespace Go.P
open Go.Sim (fC gB eQ IFn Tab)
theorem xL {f e:Nat} (h:cl40 f e=true):(f=155/\e=5)\/(f=156/\e=5)\/(f=157/\e=2):=by
 unfold cl40 at h
 simp only[Bool.and_eq_true,dJ]at h
 obtain⟨h1,a⟩:=h
 have a:=Nat.eq_of_beq_eq_true a
 simp at h1
 rcases h1 with rfl|rfl|rfl<;>simp[a]
theorem qO:∀f xs v,NF40 f=false->B40 false f xs=some v->FnOK T40 f xs v:=by
 intro f xs v _ h
 unfold B40 at h
 split at h
 .rename_i e rows
  cases hc:(cl40 f e&&Nat.ble rows.length 1073741824)with
  |false=>rw[hc]at h;cases h
  |true=>
   rw[hc]at h
   cases h
   simp only[Bool.and_eq_true]at hc
   obtain⟨h1,h2⟩:=hc
   have h2:=Nat.le_of_ble_eq_true h2
   rcases xL h1 with⟨rfl,rfl⟩|⟨rfl,rfl⟩|⟨rfl,rfl⟩
   .exact qN (show T40 155=some (fR 194 5 40 [(.int .i64 0),(.int .i64 0),(.int .i64 0),(.bool false),(.int .i64 0)])by kernel_rfl) h2
   .exact qN (show T40 156=some (fR 198 5 40 [(.int .i64 0),(.int .i64 0),(.int .i64 0),(.int .i64 0),(.bool false)])by kernel_rfl) h2
   .exact qN (show T40 157=some (fR 233 2 24 [(.string ⟨#[]⟩),(.int .i64 0)])by kernel_rfl) h2
 .cases h
 .cases h
theorem xM:FnOK T40 26 [.agg sc41.g] (bv true):=by
 refine fW1 (NW:=NW40) qO gD1 26 26 _ _ ?_
 rw[show Od (B40 false) NF40 NW40 P40 26 26 _=_ from ok26 0 sc41,show F26 sc41=some true by kernel_rfl]
 rfl
theorem uP:FnOK T40 26 [.agg dA1.g] (bv true):=by
 refine fW1 (NW:=NW40) qO gD1 26 26 _ _ ?_
 rw[show Od (B40 false) NF40 NW40 P40 26 26 _=_ from ok26 0 dA1,show F26 dA1=some true by kernel_rfl]
 rfl
theorem dC1:FnOK T40 5 [] (bv true):=
 gC1 (fn:=ix5) (by kernel_rfl) rfl rfl (Go.Sim.good_of (l:=[⟨26,[.agg (cZ1 12 sc41.g)],true,.v (.bool true)⟩,⟨26,[.agg (cZ1 12 dA1.g)],true,.v (.bool true)⟩]) (d:=200) (by kernel_rfl) (.cons (aP1 xM (aQ1 (by kernel_rfl))) (.cons (aP1 uP (aQ1 (by kernel_rfl))) .nil)))
theorem gE1:∀f xs v,NF40 f=false->B40 true f xs=some v->FnOK T40 f xs v:=by
 intro f xs v hf h
 by_cases a:xs=[]/\f=5
 .obtain ⟨rfl,rfl⟩:=a
  cases h
  exact dC1
 .refine qO f xs v hf ?_
  unfold B40 at h ⊢
  split at h
  .exact h
  .cases hc:Nat.beq f 5 with
   |false=>rw[hc]at h;cases h
   |true=>exact(a ⟨rfl,Nat.eq_of_beq_eq_true hc⟩).elim
  .cases h
end Go.P
namespace Go.P
open Go.Sim Go.Proofs
end Go.P
