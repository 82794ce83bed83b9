import Derived.Test.YtlmhifhgadmigaaGreatJb
import Derived.Test.YtlmhifhgadmigaaGreatRows
/- A text of the proof. -/
set_option linter.all false
set_option maxRecDepth 100000
namespace Go.P
open Go.Sim Go.Proofs
theorem nX1 (a:Y0) (c:a.b):lQ TBL 3 [.agg a.g] (bv true):=by
 refine hA1 (NW:=uZ) gJ1 (xI1 MK) xF1 28 3 _ _ ?_;rw[show Od (Sn true) iI uZ Fa 28 3 _=_ from ok3 0 a,iV2 c];rfl
end Go.P
namespace Go.Proofs.YtlmhifhgadmigaaGreat
open Go.Sim Go.P Go.ChangeShapes Go.WideShapes Go.ChangeAt Go.RowKit
theorem own:ownKnob Tryz.prog.godebug=none:=by kernel_rfl
theorem xK1 {P:Program} {W:World} {D:Nat} {c:TypeId} {xs:aA AV} {vs:aA Value} (h:pG P W D #[c].toList xs vs):∃a b,xs=[a]/\jC1 P W D c a b:=by
 rcases xs with _|⟨a,_|⟨x1,_⟩⟩<;>rcases vs with _|⟨b,_|⟨v1,_⟩⟩<;>first
  |exact⟨a,b,rfl,h.1⟩
  |exact absurd h (by simp[pG])
theorem Yq (W:World) (xs:aA AV) (args:Array Value) (h:pG Tryz.prog W 16 Tryz.f3.params.toList xs args.toList):
  Calls Tryz.prog 3 args W fun e W'=>e=.returned (.bool true)/\Below W.heap.size W W':=by
 have i:=pG.tr h
 have a:∃d s,callF TBL (exec TBL d) 0 3 xs {h:=[],n:=0}=some (.v (.bool true),s):=by
  rw[Tryz.params3]at h;obtain⟨k,j,rfl,⟨_,g0,c0,b⟩⟩:=xK1 h;rw[show cA Tryz.prog 27=true by kernel_rfl]at b;obtain⟨f,g,c⟩:=y27 c0;simp only[qQ2]at b;subst b;exact Vz (nX1 f g) (.cons (.agg c.1 c.2) .nil) (by simp only[rR2,List.all_nil,Kr c rfl,tM2])
 obtain⟨d,s,a⟩:=a;exact Pp nW1 Yo rfl a i
theorem Ma (os:Os) (started:os.Started) (H:Type) (enc:TypeId×Value->H):
  ReturnsInHanded {} Tryz.checked os 3 .any (Rows.multirestHidesSpec.pre6 enc Tryz.prog Tryz.f3 Rows.multirestHidesRow.domain false) (Rows.multirestHidesSpec.post enc Tryz.prog Tryz.f3 false true false false):=by
 refine returnsInHanded_of_change (C:=Tryz.checked) own started (by kernel_rfl) Tryz.func3
  (ChangeSpec.witness6 (enc:=enc) (C:=Tryz.checked) false ⟨#[],#[.agg #[.string ⟨#[]⟩,.bool false,.slice none 0 0,.slice none 0 0,.slice none 0 0,.slice none 0 0]],[]⟩ 16 (by kernel_rfl) (by kernel_rfl) (by kernel_rfl) (by kernel_rfl)) ?_
 intro W base args b d before a e _ _;refine Cp (C:=Tryz.checked) (D:=16) (tb:=4) rfl ?_ (by kernel_rfl) Tryz.underlying4 (by kernel_rfl) Yq W base args b d before a e;intro b c;have h2:b.length=1:=by rw[c];exact congrArg List.length (congrArg Array.toList Tryz.params3)
 match b,h2 with
 |[d0],_=>rfl
end Go.Proofs.YtlmhifhgadmigaaGreat
