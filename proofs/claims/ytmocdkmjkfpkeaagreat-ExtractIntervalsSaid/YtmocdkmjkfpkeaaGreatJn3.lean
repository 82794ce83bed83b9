import Derived.Test.YtmocdkmjkfpkeaaGreatJb
import Derived.Test.YtmocdkmjkfpkeaaGreatRows
/- A text of the proof. -/
set_option linter.all false
set_option maxRecDepth 100000
namespace Go.P
open Go.Sim Go.Proofs
theorem nD1 (a:Y0) (c:a.b) (a1:Int):oD TBL 3 [.agg a.g,i64 a1] (bv true):=by
 refine Xn (NW:=Bc) hJ1 (nB1 MK) wG1 30 3 _ _ ?_;rw[show Od (Tk true) lB Bc Mu 30 3 _=_ from ok3 0 a a1,gG2 c];rfl
end Go.P
namespace Go.Proofs.YtmocdkmjkfpkeaaGreat
open Go.Sim Go.P Go.ChangeShapes Go.WideShapes Go.ChangeAt Go.RowKit
theorem own:ownKnob Tryz.prog.godebug=none:=by kernel_rfl
theorem wJ1 {P:Program} {W:World} {D:Nat} {c d:TypeId} {xs:aA AV} {vs:aA Value} (h:qV P W D #[c,d].toList xs vs):∃a x1 b v1,xs=[a,x1]/\bK1 P W D c a b/\bK1 P W D d x1 v1:=by
 rcases xs with _|⟨a,_|⟨x1,_|⟨x2,_⟩⟩⟩<;>rcases vs with _|⟨b,_|⟨v1,_|⟨v2,_⟩⟩⟩<;>first
  |exact⟨a,x1,b,v1,rfl,h.1,h.2.1⟩
  |exact absurd h (by simp[qV])
theorem aI1 (W:World) (xs:aA AV) (args:Array Value) (h:qV Tryz.prog W 16 Tryz.f3.params.toList xs args.toList):
  Calls Tryz.prog 3 args W fun e W'=>e=.returned (.bool true)/\Below W.heap.size W W':=by
 have m:=qV.tr h
 have b:∃d s,callF TBL (exec TBL d) 0 3 xs {h:=[],n:=0}=some (.v (.bool true),s):=by
  rw[Tryz.params3]at h;obtain⟨t,x1,r,v1,rfl,⟨_,g0,c0,c⟩,⟨_,p,c1,a⟩⟩:=wJ1 h;rw[show cQ Tryz.prog 27=true by kernel_rfl]at c;obtain⟨i,j,f⟩:=y27 c0;simp only[oK2]at c;subst c;rw[show cQ Tryz.prog 3=false by kernel_rfl]at a;obtain⟨a1,o⟩:=fL (k:=.i64) (by kernel_rfl) c1;obtain⟨q1,q,rfl,g,l⟩:=o.inv_cons;simp only[nV2,oQ2]at a;rw[l.inv_nil,List.headD_cons]at a;subst a;exact Xt (nD1 i j a1) (.cons (.agg f.1 f.2) (.cons g .nil)) (by simp only[pL2,List.all_nil,Mr f rfl,tZ (d:=3) g rfl,qM2])
 obtain⟨d,s,b⟩:=b;exact Re nC1 Qk rfl b m
theorem No (os:Os) (started:os.Started) (H:Type) (enc:TypeId×Value->H):
  ReturnsInHanded {} Tryz.checked os 3 .any (Rows.extractIntervalsSpec.pre6 enc Tryz.prog Tryz.f3 Rows.extractIntervalsRow.domain false) (Rows.extractIntervalsSpec.post enc Tryz.prog Tryz.f3 false true false false):=by
 refine returnsInHanded_of_change (C:=Tryz.checked) own started (by kernel_rfl) Tryz.func3
  (ChangeSpec.witness6 (enc:=enc) (C:=Tryz.checked) false ⟨#[],#[.agg #[.string ⟨#[]⟩,.bool false,.slice none 0 0,.slice none 0 0,.slice none 0 0,.slice none 0 0],.int .i64 0],[]⟩ 16 (by kernel_rfl) (by kernel_rfl) (by kernel_rfl) (by kernel_rfl)) ?_
 intro W base args b d before a e _ _;refine Eh (C:=Tryz.checked) (D:=16) (tb:=4) rfl ?_ (by kernel_rfl) Tryz.underlying4 (by kernel_rfl) aI1 W base args b d before a e;intro b c;have h2:b.length=2:=by rw[c];exact congrArg List.length (congrArg Array.toList Tryz.params3)
 match b,h2 with
 |[d0,d1],_=>rfl
end Go.Proofs.YtmocdkmjkfpkeaaGreat
