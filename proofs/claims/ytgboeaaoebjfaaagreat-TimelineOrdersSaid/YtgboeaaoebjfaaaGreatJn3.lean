import Derived.Test.YtgboeaaoebjfaaaGreatJb
import Derived.Test.YtgboeaaoebjfaaaGreatRows
/- A text of the proof. -/
set_option linter.all false
set_option maxRecDepth 100000
namespace Go.P
open Go.Sim Go.Proofs
theorem kW1 (a:List aE) (b:a.length<9223372036854775808/\∀x∈a,(fun _=>True) x):FnOK TBL 3 [.is 9 (a.map aE.g)] (bv true):=by
 refine kQ1 (NW:=NW40) iV1 (nb_M MK) lR1 9 3 _ _ ?_
 rw[show Od (B40 true) NF40 NW40 P40 9 3 _=_ from ok3 0 a,law3 b.1]
 rfl
end Go.P
namespace Go.Proofs.YtgboeaaoebjfaaaGreat
open Go.Sim Go.P Go.ChangeShapes Go.WideShapes Go.ChangeAt Go.RowKit
theorem own:ownKnob Tryz.prog.godebug=none:=by kernel_rfl
theorem lS1 {P:Program} {W:World} {D:Nat} {c:TypeId} {xs:List AV} {vs:List Value} (h:oF P W D #[c].toList xs vs):∃a b,xs=[a]/\ArgR P W D c a b:=by
 rcases xs with _|⟨a,_|⟨x1,_⟩⟩<;>rcases vs with _|⟨b,_|⟨v1,_⟩⟩<;>first
  |exact⟨a,b,rfl,h.1⟩
  |exact absurd h (by simp[oF])
theorem fK1 (W:World) (xs:List AV) (args:Array Value) (h:oF Tryz.prog W 16 Tryz.f3.params.toList xs args.toList):
  Calls Tryz.prog 3 args W fun e W'=>e=.returned (.bool true)/\Below W.heap.size W W':=by
 have k:=oF.tr h
 have b:∃d s,callF TBL (exec TBL d) 0 3 xs {h:=[],n:=0}=some (.v (.bool true),s):=by
  rw[Tryz.params3]at h
  obtain⟨q,p,rfl,⟨_,g0,c0,a⟩⟩:=lS1 h
  rw[show bE Tryz.prog 22=false by kernel_rfl]at a
  obtain⟨j,f,l⟩:=rSl (e:=27) (B:=fun _=>True) (c:=aE.g) (m:=9) (by kernel_rfl) (by kernel_rfl) (fun _ _ h=>y27 h) (fun _=>rfl) c0
  obtain⟨q0,o,rfl,i,f0⟩:=l.inv_cons
  simp only[mG1,nI1]at a
  rw[f0.inv_nil,List.headD_cons]at a
  subst a
  exact fE1 (kW1 j ⟨lt62 f.1,f.2⟩) (.cons i .nil) (by simp only[nQ1,List.all_nil,tS (d:=3) i rfl,pI1])
 obtain⟨d,s,b⟩:=b
 exact aE1 kV1 iU1 rfl b k
theorem yV (os:Os) (started:os.Started) (H:Type) (enc:TypeId×Value->H):
  ReturnsInHanded {} Tryz.checked os 3 .any (Rows.timelineOrdersSpec.pre6 enc Tryz.prog Tryz.f3 Rows.timelineOrdersRow.domain false) (Rows.timelineOrdersSpec.post enc Tryz.prog Tryz.f3 false true false false):=by
 refine returnsInHanded_of_change (C:=Tryz.checked) own started (by kernel_rfl) Tryz.func3
  (ChangeSpec.witness6 (enc:=enc) (C:=Tryz.checked) false ⟨#[],#[.slice none 0 0],[]⟩ 16 (by kernel_rfl) (by kernel_rfl) (by kernel_rfl) (by kernel_rfl)) ?_
 intro W base args b d before a e _ _
 refine sN (C:=Tryz.checked) (D:=16) (tb:=4) rfl ?_ (by kernel_rfl) Tryz.underlying4 (by kernel_rfl) fK1 W base args b d before a e
 intro b c
 have h2:b.length=1:=by rw[c];exact congrArg List.length (congrArg Array.toList Tryz.params3)
 match b,h2 with
 |[d0],_=>rfl
end Go.Proofs.YtgboeaaoebjfaaaGreat
