import Derived.Test.YtfdbgfhnlgbonaaGreatJb
import Derived.Test.YtfdbgfhnlgbonaaGreatRows
/- A text of the proof. -/
set_option linter.all false
set_option maxRecDepth 100000
namespace Go.P
open Go.Sim Go.Proofs
def wW1 (a:Y0) (c:a.b) (a1:aA YZ) (b1:a1.length<9223372036854775808/\∀x∈a1,(fun _=>True) x):rX TBL 4 [.agg a.g,.is 2 (a1.map YZ.g)] (bv true):=by
 refine rY1 (NW:=wO) rB1 (gO2 MK) gL2 28 4 _ _ ?_;rw[show Od (Wx true) mQ wO Jm 28 4 _=_ from ok4 0 a a1,sX2 c a1];rfl
end Go.P
namespace Go.Proofs.YtfdbgfhnlgbonaaGreat
open Go.Sim Go.P Go.ChangeShapes Go.WideShapes Go.ChangeAt Go.RowKit
def own:ownKnob Tryz.prog.godebug=none:=by kernel_rfl
def gQ2 {P:Program} {W:World} {D:Nat} {t0 d:TypeId} {xs:aA AV} {vs:aA Value} (h:vK P W D #[t0,d].toList xs vs):∃a b c v1,xs=[a,b]/\jU1 P W D t0 a c/\jU1 P W D d b v1:=by
 rcases xs with _|⟨a,_|⟨b,_|⟨x2,_⟩⟩⟩<;>rcases vs with _|⟨c,_|⟨v1,_|⟨v2,_⟩⟩⟩<;>first
  |exact⟨a,b,c,v1,rfl,h.1,h.2.1⟩
  |exact absurd h (by simp[vK])
def iR1 (W:World) (xs:aA AV) (args:Array Value) (h:vK Tryz.prog W 16 Tryz.f4.params.toList xs args.toList):
  Calls Tryz.prog 4 args W fun e W'=>e=.returned (.bool true)/\Below W.heap.size W W':=by
 have p:=vK.tr h
 have b:∃d s,callF TBL (exec TBL d) 0 4 xs {h:=[],n:=0}=some (.v (.bool true),s):=by
  rw[Tryz.params4]at h;obtain⟨w,x,u,v1,rfl,⟨_,g0,c0,f⟩,⟨_,r,c1,a⟩⟩:=gQ2 h;rw[show dS Tryz.prog 27=true by kernel_rfl]at f;obtain⟨k,l,i⟩:=y27 c0;simp only[zT2]at f;subst f;rw[show dS Tryz.prog 25=false by kernel_rfl]at a;obtain⟨a1,b1,q⟩:=Tt (e:=51) (B:=fun _=>True) (c:=YZ.g) (m:=2) (by kernel_rfl) (by kernel_rfl) (fun _ _ h=>y51 h) (fun _=>rfl) c1;obtain⟨q1,t,rfl,j,o⟩:=q.inv_cons;simp only[zG2,aL3]at a;rw[o.inv_nil,List.headD_cons]at a;subst a;exact fE1 (wW1 k l a1 ⟨rZ b1.1,b1.2⟩) (.cons (.agg i.1 i.2) (.cons j .nil)) (by simp only[aR3,List.all_nil,Tu i rfl,yR (d:=3) j rfl,bT3])
 obtain⟨d,s,b⟩:=b;exact Yh wV1 iP1 rfl b p
def Uu (os:Os) (started:os.Started) (H:Type) (enc:TypeId×Value->H):
  ReturnsInHanded {} Tryz.checked os 4 .any (Rows.cueRemovesSpec.pre6 enc Tryz.prog Tryz.f4 Rows.cueRemovesRow.domain false) (Rows.cueRemovesSpec.post enc Tryz.prog Tryz.f4 false true false false):=by
 refine returnsInHanded_of_change (C:=Tryz.checked) own started (by kernel_rfl) Tryz.func4
  (ChangeSpec.witness6 (enc:=enc) (C:=Tryz.checked) false ⟨#[],#[.agg #[.string ⟨#[]⟩,.bool false,.slice none 0 0,.slice none 0 0,.slice none 0 0,.slice none 0 0],.slice none 0 0],[]⟩ 16 (by kernel_rfl) (by kernel_rfl) (by kernel_rfl) (by kernel_rfl)) ?_
 intro W base args b d before a e _ _;refine Ko (C:=Tryz.checked) (D:=16) (tb:=4) rfl ?_ (by kernel_rfl) Tryz.underlying4 (by kernel_rfl) iR1 W base args b d before a e;intro b c;have h2:b.length=2:=by rw[c];exact congrArg List.length (congrArg Array.toList Tryz.params4)
 match b,h2 with
 |[d0,d1],_=>rfl
end Go.Proofs.YtfdbgfhnlgbonaaGreat
