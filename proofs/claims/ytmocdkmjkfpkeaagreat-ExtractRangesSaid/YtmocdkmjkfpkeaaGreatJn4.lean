import Derived.Test.YtmocdkmjkfpkeaaGreatJb
import Derived.Test.YtmocdkmjkfpkeaaGreatRows
/- A text of the proof. -/
set_option linter.all false
set_option maxRecDepth 100000
namespace Go.P
open Go.Sim Go.Proofs
theorem jI1 (a:Z0) (c:a.b) (a1:Int):FnOK TBL 4 [.agg a.g,i64 a1] (bv true):=by
 refine gW1 (NW:=NW40) hH1 lI1 29 4 _ _ ?_
 rw[show Od (B40 true) NF40 NW40 P40 29 4 _=_ from ok4 0 a a1,law4 c a1]
 rfl
end Go.P
namespace Go.Proofs.YtmocdkmjkfpkeaaGreat
open Go.Sim Go.P Go.ChangeShapes Go.WideShapes Go.ChangeAt Go.RowKit
theorem own:ownKnob Tryz.prog.godebug=none:=by kernel_rfl
theorem lJ1 {P:Program} {W:World} {D:Nat} {c d:TypeId} {xs:List AV} {vs:List Value} (h:oB P W D #[c,d].toList xs vs):∃a x1 b v1,xs=[a,x1]/\ArgR P W D c a b/\ArgR P W D d x1 v1:=by
 rcases xs with _|⟨a,_|⟨x1,_|⟨x2,_⟩⟩⟩<;>rcases vs with _|⟨b,_|⟨v1,_|⟨v2,_⟩⟩⟩<;>first
  |exact⟨a,x1,b,v1,rfl,h.1,h.2.1⟩
  |exact absurd h (by simp[oB])
theorem dZ1 (W:World) (xs:List AV) (args:Array Value) (h:oB Tryz.prog W 16 Tryz.f4.params.toList xs args.toList):
  Calls Tryz.prog 4 args W fun e W'=>e=.returned (.bool true)/\Below W.heap.size W W':=by
 have m:=oB.tr h
 have b:∃d s,callF TBL (exec TBL d) 0 4 xs {h:=[],n:=0}=some (.v (.bool true),s):=by
  rw[Tryz.params4]at h
  obtain⟨t,x1,r,v1,rfl,⟨_,g0,c0,c⟩,⟨_,p,c1,a⟩⟩:=lJ1 h
  rw[show bE Tryz.prog 27=true by kernel_rfl]at c
  obtain⟨i,j,f⟩:=y27 c0
  simp only[if_true]at c
  subst c
  rw[show bE Tryz.prog 3=false by kernel_rfl]at a
  obtain⟨a1,o⟩:=rInt (k:=.i64) (by kernel_rfl) c1
  obtain⟨q1,q,rfl,g,l⟩:=o.inv_cons
  simp only[Bool.false_eq_true,if_false]at a
  rw[l.inv_nil,List.headD_cons]at a
  subst a
  exact dV1 (jI1 i j a1) (.cons (.agg f.1 f.2) (.cons g .nil)) (by simp only[List.all_cons,List.all_nil,yG f rfl,lF (d:=3) g rfl,Bool.and_self])
 obtain⟨d,s,b⟩:=b
 exact zR jH1 dY1 rfl b m
theorem yK (os:Os) (started:os.Started) (H:Type) (enc:TypeId×Value->H):
  ReturnsInHanded {} Tryz.checked os 4 .any (Rows.extractRangesSpec.pre6 enc Tryz.prog Tryz.f4 Rows.extractRangesRow.domain false) (Rows.extractRangesSpec.post enc Tryz.prog Tryz.f4 false true false false):=by
 refine returnsInHanded_of_change (C:=Tryz.checked) own started (by kernel_rfl) Tryz.func4
  (ChangeSpec.witness6 (enc:=enc) (C:=Tryz.checked) false ⟨#[],#[.agg #[.string ⟨#[]⟩,.bool false,.slice none 0 0,.slice none 0 0,.slice none 0 0,.slice none 0 0],.int .i64 0],[]⟩ 16 (by kernel_rfl) (by kernel_rfl) (by kernel_rfl) (by kernel_rfl)) ?_
 intro W base args b d before a e _ _
 refine sF (C:=Tryz.checked) (D:=16) (tb:=4) rfl ?_ (by kernel_rfl) Tryz.underlying4 (by kernel_rfl) dZ1 W base args b d before a e
 intro b c
 have h2:b.length=2:=by rw[c];exact congrArg List.length (congrArg Array.toList Tryz.params4)
 match b,h2 with
 |[d0,d1],_=>rfl
end Go.Proofs.YtmocdkmjkfpkeaaGreat
