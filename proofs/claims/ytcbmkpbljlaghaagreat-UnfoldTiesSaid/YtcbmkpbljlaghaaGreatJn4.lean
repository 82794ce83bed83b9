import Derived.Test.YtcbmkpbljlaghaaGreatJb
import Derived.Test.YtcbmkpbljlaghaaGreatRows
/- A text of the proof. -/
set_option linter.all false
set_option maxRecDepth 100000
namespace Go.P
open Go.Sim Go.Proofs
theorem vG1 (a:Y0) (c:a.b):oH TBL 4 [.agg a.g] (bv true):=by
 refine oU1 (NW:=yT) oB1 (eL2 MK) eI2 30 4 _ _ ?_;rw[show Od (Yr true) kA yT Iq 30 4 _=_ from ok4 0 a,pM2 c];rfl
end Go.P
namespace Go.Proofs.YtcbmkpbljlaghaaGreat
open Go.Sim Go.P Go.ChangeShapes Go.WideShapes Go.ChangeAt Go.RowKit
theorem own:ownKnob Tryz.prog.godebug=none:=by kernel_rfl
theorem eN2 {P:Program} {W:World} {D:Nat} {c:TypeId} {xs:aA AV} {vs:aA Value} (h:sM P W D #[c].toList xs vs):∃a b,xs=[a]/\rA1 P W D c a b:=by
 rcases xs with _|⟨a,_|⟨x1,_⟩⟩<;>rcases vs with _|⟨b,_|⟨v1,_⟩⟩<;>first
  |exact⟨a,b,rfl,h.1⟩
  |exact absurd h (by simp[sM])
theorem gH1 (W:World) (xs:aA AV) (args:Array Value) (h:sM Tryz.prog W 16 Tryz.f4.params.toList xs args.toList):
  Calls Tryz.prog 4 args W fun e W'=>e=.returned (.bool true)/\Below W.heap.size W W':=by
 have i:=sM.tr h
 have a:∃d s,callF TBL (exec TBL d) 0 4 xs {h:=[],n:=0}=some (.v (.bool true),s):=by
  rw[Tryz.params4]at h;obtain⟨k,j,rfl,⟨_,g0,c0,b⟩⟩:=eN2 h;rw[show dB Tryz.prog 27=true by kernel_rfl]at b;obtain⟨f,g,c⟩:=y27 c0;simp only[xM2]at b;subst b;exact cD1 (vG1 f g) (.cons (.agg c.1 c.2) .nil) (by simp only[yS2,List.all_nil,Qk c rfl,aL3])
 obtain⟨d,s,a⟩:=a;exact Vq vF1 gF1 rfl a i
theorem Ru (os:Os) (started:os.Started) (H:Type) (enc:TypeId×Value->H):
  ReturnsInHanded {} Tryz.checked os 4 .any (Rows.unfoldTiesSpec.pre6 enc Tryz.prog Tryz.f4 Rows.unfoldTiesRow.domain false) (Rows.unfoldTiesSpec.post enc Tryz.prog Tryz.f4 false true false false):=by
 refine returnsInHanded_of_change (C:=Tryz.checked) own started (by kernel_rfl) Tryz.func4
  (ChangeSpec.witness6 (enc:=enc) (C:=Tryz.checked) false ⟨#[],#[.agg #[.string ⟨#[]⟩,.bool false,.slice none 0 0,.slice none 0 0,.slice none 0 0,.slice none 0 0]],[]⟩ 16 (by kernel_rfl) (by kernel_rfl) (by kernel_rfl) (by kernel_rfl)) ?_
 intro W base args b d before a e _ _;refine Hv (C:=Tryz.checked) (D:=16) (tb:=4) rfl ?_ (by kernel_rfl) Tryz.underlying4 (by kernel_rfl) gH1 W base args b d before a e;intro b c;have h2:b.length=1:=by rw[c];exact congrArg List.length (congrArg Array.toList Tryz.params4)
 match b,h2 with
 |[d0],_=>rfl
end Go.Proofs.YtcbmkpbljlaghaaGreat
