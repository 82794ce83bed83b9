import Derived.Test.YtajloalceibekaaGreatJb
import Derived.Test.YtajloalceibekaaGreatRows
/- A text of the proof. -/
set_option linter.all false
set_option maxRecDepth 100000
namespace Go.P
open Go.Sim Go.Proofs
theorem iH1 (a:List Int) (b:a.length<9223372036854775808/\∀x∈a,(fun _=>True) x) (a1:Int):FnOK T40 3 [.is 1 (a.map cI),i64 a1] (bv true):=by
 refine fW1 (NW:=NW40) gE1 gD1 3 3 _ _ ?_
 rw[show Od (B40 true) NF40 NW40 P40 3 3 _=_ from ok3 0 a a1,law3 b.1]
 rfl
end Go.P
namespace Go.Proofs.YtajloalceibekaaGreat
open Go.Sim Go.P Go.ChangeShapes Go.WideShapes Go.ChangeAt Go.RowKit
theorem own:ownKnob Tryz.prog.godebug=none:=by kernel_rfl
theorem jS1:Tryz.prog.follows .mixedOrders=true:=by kernel_rfl
theorem jT1 {P:Program} {W:World} {D:Nat} {d e:TypeId} {xs:List AV} {vs:List Value} (h:nE P W D #[d,e].toList xs vs):∃a b c v1,xs=[a,b]/\ArgR P W D d a c/\ArgR P W D e b v1:=by
 rcases xs with _|⟨a,_|⟨b,_|⟨x2,_⟩⟩⟩<;>rcases vs with _|⟨c,_|⟨v1,_|⟨v2,_⟩⟩⟩<;>first
  |exact⟨a,b,c,v1,rfl,h.1,h.2.1⟩
  |exact absurd h (by simp[nE])
theorem dD1 (W:World) (xs:List AV) (args:Array Value) (h:nE Tryz.prog W 16 Tryz.f3.params.toList xs args.toList):
  Calls Tryz.prog 3 args W fun e W'=>e=.returned (.bool true)/\Below W.heap.size W W':=by
 have q:=nE.tr h
 have f:∃d s,callF T40 (exec T40 d) 0 3 xs {h:=[],n:=0}=some (.v (.bool true),s):=by
  rw[Tryz.params3]at h
  obtain⟨z,A,y,v1,rfl,⟨_,g0,c0,a⟩,⟨_,u,c1,b⟩⟩:=jT1 h
  rw[show bA Tryz.prog 22=false by kernel_rfl]at a
  obtain⟨l,g,r⟩:=rSl (e:=3) (B:=fun _=>True) (c:=cI) (m:=1) (by kernel_rfl) (by kernel_rfl) (fun _ _ h=>(rInt (k:=.i64) (by kernel_rfl) h).imp fun _ h=>⟨trivial,h⟩) (fun _=>rfl) c0
  obtain⟨q0,w,rfl,i,o⟩:=r.inv_cons
  simp only[Bool.false_eq_true,if_false]at a
  rw[o.inv_nil,List.headD_cons]at a
  subst a
  rw[show bA Tryz.prog 3=false by kernel_rfl]at b
  obtain⟨a1,t⟩:=rInt (k:=.i64) (by kernel_rfl) c1
  obtain⟨q1,x,rfl,j,p⟩:=t.inv_cons
  simp only[Bool.false_eq_true,if_false]at b
  rw[p.inv_nil,List.headD_cons]at b
  subst b
  exact cY1 (iH1 l ⟨lt62 g.1,g.2⟩ a1) (.cons i (.cons j .nil)) (by simp only[List.all_cons,List.all_nil,kU (d:=3) i rfl,kU (d:=3) j rfl,Bool.and_self])
 obtain⟨d,s,f⟩:=f
 exact yV iG1 jS1 rfl f q
theorem xN (os:Os) (started:os.Started) (H:Type) (enc:TypeId×Value->H):
  ReturnsInHanded {} Tryz.checked os 3 .any (Rows.condenseLabelsSpec.pre6 enc Tryz.prog Tryz.f3 Rows.condenseLabelsRow.domain false) (Rows.condenseLabelsSpec.post enc Tryz.prog Tryz.f3 false true false false):=by
 refine returnsInHanded_of_change (C:=Tryz.checked) own started (by kernel_rfl) Tryz.func3
  (ChangeSpec.witness6 (enc:=enc) (C:=Tryz.checked) false ⟨#[],#[.slice none 0 0,.int .i64 0],[]⟩ 16 (by kernel_rfl) (by kernel_rfl) (by kernel_rfl) (by kernel_rfl)) ?_
 intro W base args b d before a e _ _
 refine rO (C:=Tryz.checked) (D:=16) (tb:=4) rfl ?_ (by kernel_rfl) Tryz.underlying4 (by kernel_rfl) dD1 W base args b d before a e
 intro b c
 have h2:b.length=2:=by rw[c];exact congrArg List.length (congrArg Array.toList Tryz.params3)
 match b,h2 with
 |[d0,d1],_=>rfl
end Go.Proofs.YtajloalceibekaaGreat
