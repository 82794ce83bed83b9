import Derived.Test.YtndjmihnknjaeaaGreatJb
import Derived.Test.YtndjmihnknjaeaaGreatRows
/- A text of the proof. -/
set_option linter.all false
set_option maxRecDepth 100000
namespace Go.P
open Go.Sim Go.Proofs
theorem bB1 (a:Z0) (c:a.b) (a1:List GBar) (b1:a1.length<9223372036854775808/\∀x∈a1,(fun _=>True) x) (a2:Int):FnOK T40 7 [.agg a.g,.is 2 (a1.map GBar.g),i64 a2] (bv true):=by
 refine fY1 (NW:=NW40) bA1 gJ1 30 7 _ _ ?_
 rw[show Od (B40 true) NF40 NW40 P40 30 7 _=_ from ok7 0 a a1 a2,law7 c b1.1 a2]
 rfl
end Go.P
namespace Go.Proofs.YtndjmihnknjaeaaGreat
open Go.Sim Go.P Go.ChangeShapes Go.WideShapes Go.ChangeAt Go.RowKit
theorem own:ownKnob Tryz.prog.godebug=none:=by kernel_rfl
theorem gK1:Tryz.prog.follows .mixedOrders=true:=by kernel_rfl
theorem gL1 {P:Program} {W:World} {D:Nat} {e f g:TypeId} {xs:List AV} {vs:List Value} (h:iS P W D #[e,f,g].toList xs vs):∃a b c d v1 v2,xs=[a,b,c]/\ArgR P W D e a d/\ArgR P W D f b v1/\ArgR P W D g c v2:=by
 rcases xs with _|⟨a,_|⟨b,_|⟨c,_|⟨x3,_⟩⟩⟩⟩<;>rcases vs with _|⟨d,_|⟨v1,_|⟨v2,_|⟨v3,_⟩⟩⟩⟩<;>first
  |exact⟨a,b,c,d,v1,v2,rfl,h.1,h.2.1,h.2.2.1⟩
  |exact absurd h (by simp[iS])
theorem qG (W:World) (xs:List AV) (args:Array Value) (h:iS Tryz.prog W 16 Tryz.f7.params.toList xs args.toList):
  Calls Tryz.prog 7 args W fun e W'=>e=.returned (.bool true)/\Below W.heap.size W W':=by
 have u:=iS.tr h
 have f:∃d s,callF T40 (exec T40 d) 0 7 xs {h:=[],n:=0}=some (.v (.bool true),s):=by
  rw[Tryz.params7]at h
  obtain⟨D,E,F,C,v1,v2,rfl,⟨_,g0,c0,i⟩,⟨_,y,c1,a⟩,⟨_,g2,c2,b⟩⟩:=gL1 h
  rw[show bC Tryz.prog 27=true by kernel_rfl]at i
  obtain⟨p,q,j⟩:=y27 c0
  simp only[if_true]at i
  subst i
  rw[show bC Tryz.prog 30=false by kernel_rfl]at a
  obtain⟨a1,b1,w⟩:=rSl (B:=fun _=>True) (c:=GBar.g) (m:=2) (by kernel_rfl) (by kernel_rfl) (fun _ _ h=>y53 h) (fun _=>rfl) c1
  obtain⟨q1,z,rfl,l,r⟩:=w.inv_cons
  simp only[Bool.false_eq_true,if_false]at a
  rw[r.inv_nil,List.headD_cons]at a
  subst a
  rw[show bC Tryz.prog 3=false by kernel_rfl]at b
  obtain⟨a2,x⟩:=rInt (k:=.i64) (by kernel_rfl) c2
  obtain⟨q2,A,rfl,o,t⟩:=x.inv_cons
  simp only[Bool.false_eq_true,if_false]at b
  rw[t.inv_nil,List.headD_cons]at b
  subst b
  exact vZ (bB1 p q a1 ⟨lt62 b1.1,b1.2⟩ a2) (.cons (.agg j.1 j.2) (.cons l (.cons o .nil))) (by simp only[List.all_cons,List.all_nil,oL j rfl,eK (d:=3) l rfl,eK (d:=3) o rfl,Bool.and_self])
 obtain⟨d,s,f⟩:=f
 exact rF eG1 gK1 rfl f u
theorem kC (os:Os) (started:os.Started) (H:Type) (enc:TypeId×Value->H):
  ReturnsInHanded {} Tryz.checked os 7 .any (Rows.unfoldOnsetsSpec.pre6 enc Tryz.prog Tryz.f7 Rows.unfoldOnsetsRow.domain false) (Rows.unfoldOnsetsSpec.post enc Tryz.prog Tryz.f7 false true false false):=by
 refine returnsInHanded_of_change (C:=Tryz.checked) own started (by kernel_rfl) Tryz.func7
  (ChangeSpec.witness6 (enc:=enc) (C:=Tryz.checked) false ⟨#[],#[.agg #[.string ⟨#[]⟩,.bool false,.slice none 0 0,.slice none 0 0,.slice none 0 0,.slice none 0 0],.slice none 0 0,.int .i64 0],[]⟩ 16 (by kernel_rfl) (by kernel_rfl) (by kernel_rfl) (by kernel_rfl)) ?_
 intro W base args b d before a e _ _
 refine kI (C:=Tryz.checked) (D:=16) (tb:=4) rfl ?_ (by kernel_rfl) Tryz.underlying4 (by kernel_rfl) qG W base args b d before a e
 intro b c
 have h2:b.length=3:=by rw[c];exact congrArg List.length (congrArg Array.toList Tryz.params7)
 match b,h2 with
 |[d0,d1,d2],_=>rfl
end Go.Proofs.YtndjmihnknjaeaaGreat
