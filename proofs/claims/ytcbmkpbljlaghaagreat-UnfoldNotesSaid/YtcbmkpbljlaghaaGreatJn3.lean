import Derived.Test.YtcbmkpbljlaghaaGreatJb
import Derived.Test.YtcbmkpbljlaghaaGreatRows
/- A text of the proof. -/
set_option linter.all false
set_option maxRecDepth 100000
namespace Go.P
open Go.Sim Go.Proofs
theorem kK1 (a:Y0) (c:a.b) (a1:aA bZ) (b1:a1.length<9223372036854775808/\∀x∈a1,(fun _=>True) x):lE TBL 3 [.agg a.g,.is 2 (a1.map bZ.g)] (bv true):=by
 refine eT1 (NW:=uG) eC1 (tE1 MK) tB1 30 3 _ _ ?_;rw[show Od (Qn true) iH uG Dp 30 3 _=_ from ok3 0 a a1,dJ2 c b1.1];rfl
end Go.P
namespace Go.Proofs.YtcbmkpbljlaghaaGreat
open Go.Sim Go.P Go.ChangeShapes Go.WideShapes Go.ChangeAt Go.RowKit
theorem own:ownKnob Tryz.prog.godebug=none:=by kernel_rfl
theorem tG1 {P:Program} {W:World} {D:Nat} {d e:TypeId} {xs:aA AV} {vs:aA Value} (h:oR P W D #[d,e].toList xs vs):∃a b c v1,xs=[a,b]/\Xo P W D d a c/\Xo P W D e b v1:=by
 rcases xs with _|⟨a,_|⟨b,_|⟨x2,_⟩⟩⟩<;>rcases vs with _|⟨c,_|⟨v1,_|⟨v2,_⟩⟩⟩<;>first
  |exact⟨a,b,c,v1,rfl,h.1,h.2.1⟩
  |exact absurd h (by simp[oR])
theorem Wq (W:World) (xs:aA AV) (args:Array Value) (h:oR Tryz.prog W 16 Tryz.f3.params.toList xs args.toList):
  Calls Tryz.prog 3 args W fun e W'=>e=.returned (.bool true)/\Below W.heap.size W W':=by
 have p:=oR.tr h
 have b:∃d s,callF TBL (exec TBL d) 0 3 xs {h:=[],n:=0}=some (.v (.bool true),s):=by
  rw[Tryz.params3]at h;obtain⟨w,x,u,v1,rfl,⟨_,g0,c0,f⟩,⟨_,r,c1,a⟩⟩:=tG1 h;rw[show cA Tryz.prog 27=true by kernel_rfl]at f;obtain⟨k,l,i⟩:=y27 c0;simp only[lO2]at f;subst f;rw[show cA Tryz.prog 28=false by kernel_rfl]at a;obtain⟨a1,b1,q⟩:=Jp (e:=51) (B:=fun _=>True) (c:=bZ.g) (m:=2) (by kernel_rfl) (by kernel_rfl) (fun _ _ h=>y51 h) (fun _=>rfl) c1;obtain⟨q1,t,rfl,j,o⟩:=q.inv_cons;simp only[kX2,lQ2]at a;rw[o.inv_nil,List.headD_cons]at a;subst a;exact Uc (kK1 k l a1 ⟨mH b1.1,b1.2⟩) (.cons (.agg i.1 i.2) (.cons j .nil)) (by simp only[mJ2,List.all_nil,Jq i rfl,rG (d:=3) j rfl,oB2])
 obtain⟨d,s,b⟩:=b;exact Nw kJ1 Wo rfl b p
theorem Ko (os:Os) (started:os.Started) (H:Type) (enc:TypeId×Value->H):
  ReturnsInHanded {} Tryz.checked os 3 .any (Rows.unfoldNotesSpec.pre6 enc Tryz.prog Tryz.f3 Rows.unfoldNotesRow.domain false) (Rows.unfoldNotesSpec.post enc Tryz.prog Tryz.f3 false true false false):=by
 refine returnsInHanded_of_change (C:=Tryz.checked) own started (by kernel_rfl) Tryz.func3
  (ChangeSpec.witness6 (enc:=enc) (C:=Tryz.checked) false ⟨#[],#[.agg #[.string ⟨#[]⟩,.bool false,.slice none 0 0,.slice none 0 0,.slice none 0 0,.slice none 0 0],.slice none 0 0],[]⟩ 16 (by kernel_rfl) (by kernel_rfl) (by kernel_rfl) (by kernel_rfl)) ?_
 intro W base args b d before a e _ _;refine Bj (C:=Tryz.checked) (D:=16) (tb:=4) rfl ?_ (by kernel_rfl) Tryz.underlying4 (by kernel_rfl) Wq W base args b d before a e;intro b c;have h2:b.length=2:=by rw[c];exact congrArg List.length (congrArg Array.toList Tryz.params3)
 match b,h2 with
 |[d0,d1],_=>rfl
end Go.Proofs.YtcbmkpbljlaghaaGreat
