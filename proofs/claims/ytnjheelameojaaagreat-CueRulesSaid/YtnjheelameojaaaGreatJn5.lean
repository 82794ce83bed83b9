import Derived.Test.YtnjheelameojaaaGreatJb
import Derived.Test.YtnjheelameojaaaGreatRows
/- A text of the proof. -/
set_option linter.all false
set_option maxRecDepth 100000
namespace Go.P
open Go.Sim Go.Proofs
theorem bQ1 (a:Z0) (c:a.b) (a1:bO) (b1:True):FnOK TBL 5 [.agg a.g,.agg a1.g] (bv true):=by
 refine gT1 (NW:=NW40) bP1 jB1 29 5 _ _ ?_
 rw[show Od (B40 true) NF40 NW40 P40 29 5 _=_ from ok5 0 a a1,law5 c a1]
 rfl
end Go.P
namespace Go.Proofs.YtnjheelameojaaaGreat
open Go.Sim Go.P Go.ChangeShapes Go.WideShapes Go.ChangeAt Go.RowKit
theorem own:ownKnob Tryz.prog.godebug=none:=by kernel_rfl
theorem hD1 {P:Program} {W:World} {D:Nat} {d e:TypeId} {xs:List AV} {vs:List Value} (h:jM P W D #[d,e].toList xs vs):∃a b c v1,xs=[a,b]/\ArgR P W D d a c/\ArgR P W D e b v1:=by
 rcases xs with _|⟨a,_|⟨b,_|⟨x2,_⟩⟩⟩<;>rcases vs with _|⟨c,_|⟨v1,_|⟨v2,_⟩⟩⟩<;>first
  |exact⟨a,b,c,v1,rfl,h.1,h.2.1⟩
  |exact absurd h (by simp[jM])
theorem rD (W:World) (xs:List AV) (args:Array Value) (h:jM Tryz.prog W 16 Tryz.f5.params.toList xs args.toList):
  Calls Tryz.prog 5 args W fun e W'=>e=.returned (.bool true)/\Below W.heap.size W W':=by
 have k:=jM.tr h
 have a:∃d s,callF TBL (exec TBL d) 0 5 xs {h:=[],n:=0}=some (.v (.bool true),s):=by
  rw[Tryz.params5]at h
  obtain⟨o,p,m,v1,rfl,⟨_,g0,c0,b⟩,⟨_,l,c1,c⟩⟩:=hD1 h
  rw[show bD Tryz.prog 27=true by kernel_rfl]at b
  obtain⟨i,j,f⟩:=y27 c0
  simp only[if_true]at b
  subst b
  rw[show bD Tryz.prog 39=true by kernel_rfl]at c
  obtain⟨a1,b1,g⟩:=y39 c1
  simp only[if_true]at c
  subst c
  exact wZ (bQ1 i j a1 b1) (.cons (.agg f.1 f.2) (.cons (.agg g.1 g.2) .nil)) (by simp only[List.all_cons,List.all_nil,iF f rfl,iF g rfl,Bool.and_self])
 obtain⟨d,s,a⟩:=a
 exact sD eZ1 dY1 rfl a k
theorem kQ (os:Os) (started:os.Started) (H:Type) (enc:TypeId×Value->H):
  ReturnsInHanded {} Tryz.checked os 5 .any (Rows.cueRulesSpec.pre6 enc Tryz.prog Tryz.f5 Rows.cueRulesRow.domain false) (Rows.cueRulesSpec.post enc Tryz.prog Tryz.f5 false true false false):=by
 refine returnsInHanded_of_change (C:=Tryz.checked) own started (by kernel_rfl) Tryz.func5
  (ChangeSpec.witness6 (enc:=enc) (C:=Tryz.checked) false ⟨#[],#[.agg #[.string ⟨#[]⟩,.bool false,.slice none 0 0,.slice none 0 0,.slice none 0 0,.slice none 0 0],.agg #[.int .i64 0,.int .i64 0,.int .i64 0,.int .i64 0,.int .i64 0]],[]⟩ 16 (by kernel_rfl) (by kernel_rfl) (by kernel_rfl) (by kernel_rfl)) ?_
 intro W base args b d before a e _ _
 refine kX (C:=Tryz.checked) (D:=16) (tb:=4) rfl ?_ (by kernel_rfl) Tryz.underlying4 (by kernel_rfl) rD W base args b d before a e
 intro b c
 have h2:b.length=2:=by rw[c];exact congrArg List.length (congrArg Array.toList Tryz.params5)
 match b,h2 with
 |[d0,d1],_=>rfl
end Go.Proofs.YtnjheelameojaaaGreat
