import Derived.Test.YtfdbgfhnlgbonaaGreatJb
import Derived.Test.YtfdbgfhnlgbonaaGreatRows
/- A text of the proof. -/
set_option linter.all false
set_option maxRecDepth 100000
namespace Go.P
open Go.Sim Go.Proofs
def zV1 (a:Y0) (c:a.b) (a1:Int) (b1:IntKind.min .u8<=a1/\a1<=IntKind.max .u8) (a2:Int) (b2:IntKind.min .u8<=a2/\a2<=IntKind.max .u8):rQ TBL 3 [.agg a.g,.v (.int .u8 a1),.v (.int .u8 a2)] (bv true):=by
 refine tR1 (NW:=Gi) sX1 (jS2 MK) jQ2 29 3 _ _ ?_;rw[show Od (B40 true) mZ Gi Rh 29 3 _=_ from ok3 0 a a1 a2,jJ2 c b1 b2];rfl
end Go.P
namespace Go.Proofs.YtfdbgfhnlgbonaaGreat
open Go.Sim Go.P Go.ChangeShapes Go.WideShapes Go.ChangeAt Go.RowKit
def own:ownKnob Tryz.prog.godebug=none:=by kernel_rfl
def jU2 {P:Program} {W:World} {D:Nat} {c d e:TypeId} {xs:aA AV} {vs:aA Value} (h:vI P W D #[c,d,e].toList xs vs):∃a x1 x2 b v1 v2,xs=[a,x1,x2]/\dM1 P W D c a b/\dM1 P W D d x1 v1/\dM1 P W D e x2 v2:=by
 rcases xs with _|⟨a,_|⟨x1,_|⟨x2,_|⟨x3,_⟩⟩⟩⟩<;>rcases vs with _|⟨b,_|⟨v1,_|⟨v2,_|⟨v3,_⟩⟩⟩⟩<;>first
  |exact⟨a,x1,x2,b,v1,v2,rfl,h.1,h.2.1,h.2.2.1⟩
  |exact absurd h (by simp[vI])
def kL1 (W:World) (xs:aA AV) (args:Array Value) (h:vI Tryz.prog W 16 Tryz.f3.params.toList xs args.toList):
  Calls Tryz.prog 3 args W fun e W'=>e=.returned (.bool true)/\Below W.heap.size W W':=by
 have p:=vI.tr h
 have c:∃d s,callF TBL (exec TBL d) 0 3 xs {h:=[],n:=0}=some (.v (.bool true),s):=by
  rw[Tryz.params3]at h;obtain⟨y,x1,x2,x,v1,v2,rfl,⟨_,g0,c0,f⟩,⟨_,t,c1,a⟩,⟨_,g2,c2,b⟩⟩:=jU2 h;rw[show eD Tryz.prog 27=true by kernel_rfl]at f;obtain⟨j,l,g⟩:=y27 c0;simp only[aZ3]at f;subst f;rw[show eD Tryz.prog 5=false by kernel_rfl]at a;obtain⟨a1,b1,q⟩:=tS1 (k:=.u8) (by kernel_rfl) c1;obtain⟨q1,u,rfl,i,m⟩:=q.inv_cons;simp only[aK3,bI3]at a;rw[m.inv_nil,List.headD_cons]at a;subst a;rw[show eD Tryz.prog 5=false by kernel_rfl]at b;obtain⟨a2,b2,r⟩:=tS1 (k:=.u8) (by kernel_rfl) c2;obtain⟨q2,w,rfl,e2,o⟩:=r.inv_cons;simp only[aK3,bI3]at b;rw[o.inv_nil,List.headD_cons]at b;subst b;exact fU1 (zV1 j l a1 b1 a2 b2) (.cons (.agg g.1 g.2) (.cons i (.cons e2 .nil))) (by simp only[bY3,List.all_nil,Ts g rfl,rU (d:=3) i rfl,rU (d:=3) e2 rfl,dE3])
 obtain⟨d,s,c⟩:=c;exact Yw zU1 kJ1 rfl c p
def Uw (os:Os) (started:os.Started) (H:Type) (enc:TypeId×Value->H):
  ReturnsInHanded {} Tryz.checked os 3 .any (Rows.cueChoosesSpec.pre6 enc Tryz.prog Tryz.f3 Rows.cueChoosesRow.domain false) (Rows.cueChoosesSpec.post enc Tryz.prog Tryz.f3 false true false false):=by
 refine returnsInHanded_of_change (C:=Tryz.checked) own started (by kernel_rfl) Tryz.func3
  (ChangeSpec.witness6 (enc:=enc) (C:=Tryz.checked) false ⟨#[],#[.agg #[.string ⟨#[]⟩,.bool false,.slice none 0 0,.slice none 0 0,.slice none 0 0,.slice none 0 0],.int .u8 0,.int .u8 0],[]⟩ 16 (by kernel_rfl) (by kernel_rfl) (by kernel_rfl) (by kernel_rfl)) ?_
 intro W base args b d before a e _ _;refine Ko (C:=Tryz.checked) (D:=16) (tb:=4) rfl ?_ (by kernel_rfl) Tryz.underlying4 (by kernel_rfl) kL1 W base args b d before a e;intro b c;have h2:b.length=3:=by rw[c];exact congrArg List.length (congrArg Array.toList Tryz.params3)
 match b,h2 with
 |[d0,d1,d2],_=>rfl
end Go.Proofs.YtfdbgfhnlgbonaaGreat
