import Derived.Test.YtndjmihnknjaeaaGreatJb
import Derived.Test.YtndjmihnknjaeaaGreatRows
/- A text of the proof. -/
set_option linter.all false
set_option maxRecDepth 100000
namespace Go.P
open Go.Sim Go.Proofs
theorem bB1 (a:Z0) (c:a.b) (a1:List GBar) (b1:a1.length<9223372036854775808/\∀x∈a1,(fun _=>True) x):FnOK T40 6 [.agg a.g,.is 2 (a1.map GBar.g)] (bv true):=by
 refine fY1 (NW:=NW40) bA1 gJ1 30 6 _ _ ?_
 rw[show Od (B40 true) NF40 NW40 P40 30 6 _=_ from ok6 0 a a1,law6 c b1.1]
 rfl
end Go.P
namespace Go.Proofs.YtndjmihnknjaeaaGreat
open Go.Sim Go.P Go.ChangeShapes Go.WideShapes Go.ChangeAt Go.RowKit
theorem own:ownKnob Tryz.prog.godebug=none:=by kernel_rfl
theorem gK1:Tryz.prog.follows .mixedOrders=true:=by kernel_rfl
theorem gL1 {P:Program} {W:World} {D:Nat} {d e:TypeId} {xs:List AV} {vs:List Value} (h:iS P W D #[d,e].toList xs vs):∃a b c v1,xs=[a,b]/\ArgR P W D d a c/\ArgR P W D e b v1:=by
 rcases xs with _|⟨a,_|⟨b,_|⟨x2,_⟩⟩⟩<;>rcases vs with _|⟨c,_|⟨v1,_|⟨v2,_⟩⟩⟩<;>first
  |exact⟨a,b,c,v1,rfl,h.1,h.2.1⟩
  |exact absurd h (by simp[iS])
theorem qG (W:World) (xs:List AV) (args:Array Value) (h:iS Tryz.prog W 16 Tryz.f6.params.toList xs args.toList):
  Calls Tryz.prog 6 args W fun e W'=>e=.returned (.bool true)/\Below W.heap.size W W':=by
 have p:=iS.tr h
 have b:∃d s,callF T40 (exec T40 d) 0 6 xs {h:=[],n:=0}=some (.v (.bool true),s):=by
  rw[Tryz.params6]at h
  obtain⟨w,x,u,v1,rfl,⟨_,g0,c0,f⟩,⟨_,r,c1,a⟩⟩:=gL1 h
  rw[show bC Tryz.prog 27=true by kernel_rfl]at f
  obtain⟨k,l,i⟩:=y27 c0
  simp only[if_true]at f
  subst f
  rw[show bC Tryz.prog 30=false by kernel_rfl]at a
  obtain⟨a1,b1,q⟩:=rSl (B:=fun _=>True) (c:=GBar.g) (m:=2) (by kernel_rfl) (by kernel_rfl) (fun _ _ h=>y53 h) (fun _=>rfl) c1
  obtain⟨q1,t,rfl,j,o⟩:=q.inv_cons
  simp only[Bool.false_eq_true,if_false]at a
  rw[o.inv_nil,List.headD_cons]at a
  subst a
  exact vZ (bB1 k l a1 ⟨lt62 b1.1,b1.2⟩) (.cons (.agg i.1 i.2) (.cons j .nil)) (by simp only[List.all_cons,List.all_nil,oL i rfl,eK (d:=3) j rfl,Bool.and_self])
 obtain⟨d,s,b⟩:=b
 exact rF eG1 gK1 rfl b p
theorem kC (os:Os) (started:os.Started) (H:Type) (enc:TypeId×Value->H):
  ReturnsInHanded {} Tryz.checked os 6 .any (Rows.unfoldPassesSpec.pre6 enc Tryz.prog Tryz.f6 Rows.unfoldPassesRow.domain false) (Rows.unfoldPassesSpec.post enc Tryz.prog Tryz.f6 false true false false):=by
 refine returnsInHanded_of_change (C:=Tryz.checked) own started (by kernel_rfl) Tryz.func6
  (ChangeSpec.witness6 (enc:=enc) (C:=Tryz.checked) false ⟨#[],#[.agg #[.string ⟨#[]⟩,.bool false,.slice none 0 0,.slice none 0 0,.slice none 0 0,.slice none 0 0],.slice none 0 0],[]⟩ 16 (by kernel_rfl) (by kernel_rfl) (by kernel_rfl) (by kernel_rfl)) ?_
 intro W base args b d before a e _ _
 refine kI (C:=Tryz.checked) (D:=16) (tb:=4) rfl ?_ (by kernel_rfl) Tryz.underlying4 (by kernel_rfl) qG W base args b d before a e
 intro b c
 have h2:b.length=2:=by rw[c];exact congrArg List.length (congrArg Array.toList Tryz.params6)
 match b,h2 with
 |[d0,d1],_=>rfl
end Go.Proofs.YtndjmihnknjaeaaGreat
