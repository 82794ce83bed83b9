import Derived.Test.YtnjheelameojaaaGreatJb
import Derived.Test.YtnjheelameojaaaGreatRows
/- A text of the proof. -/
set_option linter.all false
set_option maxRecDepth 100000
namespace Go.P
open Go.Sim Go.Proofs
theorem bQ1 (a:Z0) (c:a.b) (a1:Int) (a2:aQ) (b2:True):FnOK TBL 4 [.agg a.g,i64 a1,.agg a2.g] (bv true):=by
 refine gT1 (NW:=NW40) bP1 jB1 29 4 _ _ ?_
 rw[show Od (B40 true) NF40 NW40 P40 29 4 _=_ from ok4 0 a a1 a2,law4 c a1 a2]
 rfl
end Go.P
namespace Go.Proofs.YtnjheelameojaaaGreat
open Go.Sim Go.P Go.ChangeShapes Go.WideShapes Go.ChangeAt Go.RowKit
theorem own:ownKnob Tryz.prog.godebug=none:=by kernel_rfl
theorem hD1 {P:Program} {W:World} {D:Nat} {d e f:TypeId} {xs:List AV} {vs:List Value} (h:jM P W D #[d,e,f].toList xs vs):∃a b x2 c v1 v2,xs=[a,b,x2]/\ArgR P W D d a c/\ArgR P W D e b v1/\ArgR P W D f x2 v2:=by
 rcases xs with _|⟨a,_|⟨b,_|⟨x2,_|⟨x3,_⟩⟩⟩⟩<;>rcases vs with _|⟨c,_|⟨v1,_|⟨v2,_|⟨v3,_⟩⟩⟩⟩<;>first
  |exact⟨a,b,x2,c,v1,v2,rfl,h.1,h.2.1,h.2.2.1⟩
  |exact absurd h (by simp[jM])
theorem rD (W:World) (xs:List AV) (args:Array Value) (h:jM Tryz.prog W 16 Tryz.f4.params.toList xs args.toList):
  Calls Tryz.prog 4 args W fun e W'=>e=.returned (.bool true)/\Below W.heap.size W W':=by
 have p:=jM.tr h
 have b:∃d s,callF TBL (exec TBL d) 0 4 xs {h:=[],n:=0}=some (.v (.bool true),s):=by
  rw[Tryz.params4]at h
  obtain⟨w,x,x2,u,v1,v2,rfl,⟨_,g0,c0,c⟩,⟨_,r,c1,a⟩,⟨_,g2,c2,f⟩⟩:=hD1 h
  rw[show bD Tryz.prog 27=true by kernel_rfl]at c
  obtain⟨l,m,g⟩:=y27 c0
  simp only[if_true]at c
  subst c
  rw[show bD Tryz.prog 3=false by kernel_rfl]at a
  obtain⟨a1,q⟩:=rInt (k:=.i64) (by kernel_rfl) c1
  obtain⟨q1,t,rfl,j,o⟩:=q.inv_cons
  simp only[Bool.false_eq_true,if_false]at a
  rw[o.inv_nil,List.headD_cons]at a
  subst a
  rw[show bD Tryz.prog 32=true by kernel_rfl]at f
  obtain⟨a2,b2,i⟩:=y32 c2
  simp only[if_true]at f
  subst f
  exact wZ (bQ1 l m a1 a2 b2) (.cons (.agg g.1 g.2) (.cons j (.cons (.agg i.1 i.2) .nil))) (by simp only[List.all_cons,List.all_nil,iF g rfl,lG (d:=3) j rfl,iF i rfl,Bool.and_self])
 obtain⟨d,s,b⟩:=b
 exact sD eZ1 dY1 rfl b p
theorem kQ (os:Os) (started:os.Started) (H:Type) (enc:TypeId×Value->H):
  ReturnsInHanded {} Tryz.checked os 4 .any (Rows.cueRestsSpec.pre6 enc Tryz.prog Tryz.f4 Rows.cueRestsRow.domain false) (Rows.cueRestsSpec.post enc Tryz.prog Tryz.f4 false true false false):=by
 refine returnsInHanded_of_change (C:=Tryz.checked) own started (by kernel_rfl) Tryz.func4
  (ChangeSpec.witness6 (enc:=enc) (C:=Tryz.checked) false ⟨#[],#[.agg #[.string ⟨#[]⟩,.bool false,.slice none 0 0,.slice none 0 0,.slice none 0 0,.slice none 0 0],.int .i64 0,.agg #[.int .i64 0,.int .i64 0]],[]⟩ 16 (by kernel_rfl) (by kernel_rfl) (by kernel_rfl) (by kernel_rfl)) ?_
 intro W base args b d before a e _ _
 refine kX (C:=Tryz.checked) (D:=16) (tb:=4) rfl ?_ (by kernel_rfl) Tryz.underlying4 (by kernel_rfl) rD W base args b d before a e
 intro b c
 have h2:b.length=3:=by rw[c];exact congrArg List.length (congrArg Array.toList Tryz.params4)
 match b,h2 with
 |[d0,d1,d2],_=>rfl
end Go.Proofs.YtnjheelameojaaaGreat
