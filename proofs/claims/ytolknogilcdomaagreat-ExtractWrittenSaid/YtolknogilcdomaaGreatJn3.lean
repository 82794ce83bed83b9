import Derived.Test.YtolknogilcdomaaGreatJb
import Derived.Test.YtolknogilcdomaaGreatRows
/- A text of the proof. -/
set_option linter.all false
set_option maxRecDepth 100000
namespace Go.P
open Go.Sim Go.Proofs
def bA2 (a0:Y0) (a:a0.b):sB TBL 3 [.agg a0.g] (bv true):=by
 refine hF1 (NW:=As) tV1 (aY2 MK) lV2 28 3 _ _ ?_;rw[show Od (B40 true) oA As Rq 28 3 _=_ from ok3 0 a0,yL2 a];rfl
end Go.P
namespace Go.Proofs.YtolknogilcdomaaGreat
open Go.Sim Go.P Go.ChangeShapes Go.WideShapes Go.ChangeAt Go.RowKit
def own:ownKnob Tryz.prog.godebug=none:=by kernel_rfl
def lY2 {P:Program} {W:World} {D:Nat} {c:TypeId} {xs:aA AV} {vs:aA Value} (h:vK P W D #[c].toList xs vs):∃a b,xs=[a]/\wP1 P W D c a b:=by
 rcases xs with _|⟨a,_|⟨x1,_⟩⟩<;>rcases vs with _|⟨b,_|⟨v1,_⟩⟩<;>first
  |exact⟨a,b,rfl,h.1⟩
  |exact absurd h (by simp[vK])
def lG1 (W:World) (xs:aA AV) (args:Array Value) (h:vK Tryz.prog W 16 Tryz.f3.params.toList xs args.toList):
  Calls Tryz.prog 3 args W fun e W'=>e=.returned (.bool true)/\Below W.heap.size W W':=by
 have g:=vK.tr h
 have a:∃d s,callF TBL (exec TBL d) 0 3 xs {h:=[],n:=0}=some (.v (.bool true),s):=by
  rw[Tryz.params3]at h;obtain⟨j,i,rfl,⟨_,g0,c0,b⟩⟩:=lY2 h;rw[show eN Tryz.prog 27=true by kernel_rfl]at b;obtain⟨a0,f,c⟩:=y27 c0;simp only[gF3]at b;subst b;exact hK1 (bA2 a0 f) (.cons (.agg c.1 c.2) .nil) (by simp only[hA3,List.all_nil,Va c rfl,iE3])
 obtain⟨d,s,a⟩:=a;exact aD1 aZ2 Zj rfl a g
def Vz (os:Os) (started:os.Started) (H:Type) (enc:TypeId×Value->H):
  ReturnsInHanded {} Tryz.checked os 3 .any (Rows.extractWrittenSpec.pre6 enc Tryz.prog Tryz.f3 Rows.extractWrittenRow.domain false) (Rows.extractWrittenSpec.post enc Tryz.prog Tryz.f3 false true false false):=by
 refine returnsInHanded_of_change (C:=Tryz.checked) own started (by kernel_rfl) Tryz.func3
  (ChangeSpec.witness6 (enc:=enc) (C:=Tryz.checked) false ⟨#[],#[.agg #[.string ⟨#[]⟩,.bool false,.slice none 0 0,.slice none 0 0,.slice none 0 0,.slice none 0 0]],[]⟩ 16 (by kernel_rfl) (by kernel_rfl) (by kernel_rfl) (by kernel_rfl)) ?_
 intro W base args b d before a e _ _;refine Ky (C:=Tryz.checked) (D:=16) (tb:=4) rfl ?_ (by kernel_rfl) Tryz.underlying4 (by kernel_rfl) lG1 W base args b d before a e;intro b c;have h2:b.length=1:=by rw[c];exact congrArg List.length (congrArg Array.toList Tryz.params3)
 match b,h2 with
 |[d0],_=>rfl
end Go.Proofs.YtolknogilcdomaaGreat
