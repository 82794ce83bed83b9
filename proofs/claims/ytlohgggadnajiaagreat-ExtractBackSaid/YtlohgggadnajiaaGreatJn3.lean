import Derived.Test.YtlohgggadnajiaaGreatJb
import Derived.Test.YtlohgggadnajiaaGreatRows
/- A text of the proof. -/
set_option linter.all false
set_option maxRecDepth 100000
namespace Go.P
open Go.Sim Go.Proofs
def yY1 (a0:Y0) (a:a0.b) (a1:YL) (b1:True):sJ TBL 3 [.agg a0.g,.agg a1.g] (bv true):=by
 refine fH1 (NW:=Ap) sH1 (yW1 MK) jF2 28 3 _ _ ?_;rw[show Od (Zy true) oF Ap Qo 28 3 _=_ from ok3 0 a0 a1,vO2 a];rfl
end Go.P
namespace Go.Proofs.YtlohgggadnajiaaGreat
open Go.Sim Go.P Go.ChangeShapes Go.WideShapes Go.ChangeAt Go.RowKit
def own:ownKnob Tryz.prog.godebug=none:=by kernel_rfl
def jI2 {P:Program} {W:World} {D:Nat} {c d:TypeId} {xs:aA AV} {vs:aA Value} (h:vN P W D #[c,d].toList xs vs):∃a x1 b v1,xs=[a,x1]/\lA1 P W D c a b/\lA1 P W D d x1 v1:=by
 rcases xs with _|⟨a,_|⟨x1,_|⟨x2,_⟩⟩⟩<;>rcases vs with _|⟨b,_|⟨v1,_|⟨v2,_⟩⟩⟩<;>first
  |exact⟨a,x1,b,v1,rfl,h.1,h.2.1⟩
  |exact absurd h (by simp[vN])
def jX1 (W:World) (xs:aA AV) (args:Array Value) (h:vN Tryz.prog W 16 Tryz.f3.params.toList xs args.toList):
  Calls Tryz.prog 3 args W fun e W'=>e=.returned (.bool true)/\Below W.heap.size W W':=by
 have j:=vN.tr h
 have a:∃d s,callF TBL (exec TBL d) 0 3 xs {h:=[],n:=0}=some (.v (.bool true),s):=by
  rw[Tryz.params3]at h;obtain⟨m,x1,l,v1,rfl,⟨_,g0,c0,b⟩,⟨_,k,c1,c⟩⟩:=jI2 h;rw[show eP Tryz.prog 27=true by kernel_rfl]at b;obtain⟨a0,i,f⟩:=y27 c0;simp only[cF3]at b;subst b;rw[show eP Tryz.prog 29=true by kernel_rfl]at c;obtain⟨a1,b1,g⟩:=y29 c1;simp only[cF3]at c;subst c;exact fL1 (yY1 a0 i a1 b1) (.cons (.agg f.1 f.2) (.cons (.agg g.1 g.2) .nil)) (by simp only[dF3,List.all_nil,Gy f rfl,Gy g rfl,eF3])
 obtain⟨d,s,a⟩:=a;exact Yr yX1 Xy rfl a j
def Ut (os:Os) (started:os.Started) (H:Type) (enc:TypeId×Value->H):
  ReturnsInHanded {} Tryz.checked os 3 .any (Rows.extractBackSpec.pre6 enc Tryz.prog Tryz.f3 Rows.extractBackRow.domain false) (Rows.extractBackSpec.post enc Tryz.prog Tryz.f3 false true false false):=by
 refine returnsInHanded_of_change (C:=Tryz.checked) own started (by kernel_rfl) Tryz.func3
  (ChangeSpec.witness6 (enc:=enc) (C:=Tryz.checked) false ⟨#[],#[.agg #[.string ⟨#[]⟩,.bool false,.slice none 0 0,.slice none 0 0,.slice none 0 0,.slice none 0 0],.agg #[.int .i64 0,.int .i64 0]],[]⟩ 16 (by kernel_rfl) (by kernel_rfl) (by kernel_rfl) (by kernel_rfl)) ?_
 intro W base args b d before a e _ _;refine Kw (C:=Tryz.checked) (D:=16) (tb:=4) rfl ?_ (by kernel_rfl) Tryz.underlying4 (by kernel_rfl) jX1 W base args b d before a e;intro b c;have h2:b.length=2:=by rw[c];exact congrArg List.length (congrArg Array.toList Tryz.params3)
 match b,h2 with
 |[d0,d1],_=>rfl
end Go.Proofs.YtlohgggadnajiaaGreat
