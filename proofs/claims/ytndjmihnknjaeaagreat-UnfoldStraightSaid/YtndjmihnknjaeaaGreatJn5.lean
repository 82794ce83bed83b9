import Derived.Test.YtndjmihnknjaeaaGreatJb
import Derived.Test.YtndjmihnknjaeaaGreatRows
/- A text of the proof. -/
set_option linter.all false
set_option maxRecDepth 100000
namespace Go.P
open Go.Sim Go.Proofs
theorem iD1 (a:Z0) (c:a.b):FnOK T40 5 [.agg a.g] (bv true):=by
 refine hV1 (NW:=NW40) gB1 iB1 30 5 _ _ ?_
 rw[show Od (B40 true) NF40 NW40 P40 30 5 _=_ from ok5 0 a,law5 c]
 rfl
end Go.P
namespace Go.Proofs.YtndjmihnknjaeaaGreat
open Go.Sim Go.P Go.ChangeShapes Go.WideShapes Go.ChangeAt Go.RowKit
theorem own:ownKnob Tryz.prog.godebug=none:=by kernel_rfl
theorem iZ1:Tryz.prog.follows .mixedOrders=true:=by kernel_rfl
theorem jA1 {P:Program} {W:World} {D:Nat} {c:TypeId} {xs:List AV} {vs:List Value} (h:nA P W D #[c].toList xs vs):∃a b,xs=[a]/\ArgR P W D c a b:=by
 rcases xs with _|⟨a,_|⟨x1,_⟩⟩<;>rcases vs with _|⟨b,_|⟨v1,_⟩⟩<;>first
  |exact⟨a,b,rfl,h.1⟩
  |exact absurd h (by simp[nA])
theorem cZ1 (W:World) (xs:List AV) (args:Array Value) (h:nA Tryz.prog W 16 Tryz.f5.params.toList xs args.toList):
  Calls Tryz.prog 5 args W fun e W'=>e=.returned (.bool true)/\Below W.heap.size W W':=by
 have i:=nA.tr h
 have a:∃d s,callF T40 (exec T40 d) 0 5 xs {h:=[],n:=0}=some (.v (.bool true),s):=by
  rw[Tryz.params5]at h
  obtain⟨k,j,rfl,⟨_,g0,c0,b⟩⟩:=jA1 h
  rw[show bG Tryz.prog 27=true by kernel_rfl]at b
  obtain⟨f,g,c⟩:=y27 c0
  simp only[if_true]at b
  subst b
  exact cW1 (iD1 f g) (.cons (.agg c.1 c.2) .nil) (by simp only[List.all_cons,List.all_nil,xC c rfl,Bool.and_self])
 obtain⟨d,s,a⟩:=a
 exact yQ iC1 iZ1 rfl a i
theorem xE (os:Os) (started:os.Started) (H:Type) (enc:TypeId×Value->H):
  ReturnsInHanded {} Tryz.checked os 5 .any (Rows.unfoldStraightSpec.pre6 enc Tryz.prog Tryz.f5 Rows.unfoldStraightRow.domain false) (Rows.unfoldStraightSpec.post enc Tryz.prog Tryz.f5 false true false false):=by
 refine returnsInHanded_of_change (C:=Tryz.checked) own started (by kernel_rfl) Tryz.func5
  (ChangeSpec.witness6 (enc:=enc) (C:=Tryz.checked) false ⟨#[],#[.agg #[.string ⟨#[]⟩,.bool false,.slice none 0 0,.slice none 0 0,.slice none 0 0,.slice none 0 0]],[]⟩ 16 (by kernel_rfl) (by kernel_rfl) (by kernel_rfl) (by kernel_rfl)) ?_
 intro W base args b d before a e _ _
 refine rD (C:=Tryz.checked) (D:=16) (tb:=4) rfl ?_ (by kernel_rfl) Tryz.underlying4 (by kernel_rfl) cZ1 W base args b d before a e
 intro b c
 have h2:b.length=1:=by rw[c];exact congrArg List.length (congrArg Array.toList Tryz.params5)
 match b,h2 with
 |[d0],_=>rfl
end Go.Proofs.YtndjmihnknjaeaaGreat
