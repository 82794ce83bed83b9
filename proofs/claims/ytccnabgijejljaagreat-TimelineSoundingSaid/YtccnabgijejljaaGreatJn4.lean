import Derived.Test.YtccnabgijejljaaGreatJb
import Derived.Test.YtccnabgijejljaaGreatRows
/- A text of the proof. -/
set_option linter.all false
set_option maxRecDepth 100000
namespace Go.P
open Go.Sim Go.Proofs
theorem gH1 (a:List aQ) (b:a.length<9223372036854775808/\∀x∈a,(fun _=>True) x) (a1 a2:Int):FnOK T40 4 [.is 9 (a.map aQ.g),i64 a1,i64 a2] (bv true):=by
 refine gB1 (NW:=NW40) eM1 gF1 4 4 _ _ ?_
 rw[show Od (B40 true) NF40 NW40 P40 4 4 _=_ from ok4 0 a a1 a2,law4 b.1 a1 a2]
 rfl
end Go.P
namespace Go.Proofs.YtccnabgijejljaaGreat
open Go.Sim Go.P Go.ChangeShapes Go.WideShapes Go.ChangeAt Go.RowKit
theorem own:ownKnob Tryz.prog.godebug=none:=by kernel_rfl
theorem hB1:Tryz.prog.follows .mixedOrders=true:=by kernel_rfl
theorem hD1 {P:Program} {W:World} {D:Nat} {e f g:TypeId} {xs:List AV} {vs:List Value} (h:lZ P W D #[e,f,g].toList xs vs):∃a b c d v1 v2,xs=[a,b,c]/\ArgR P W D e a d/\ArgR P W D f b v1/\ArgR P W D g c v2:=by
 rcases xs with _|⟨a,_|⟨b,_|⟨c,_|⟨x3,_⟩⟩⟩⟩<;>rcases vs with _|⟨d,_|⟨v1,_|⟨v2,_|⟨v3,_⟩⟩⟩⟩<;>first
  |exact⟨a,b,c,d,v1,v2,rfl,h.1,h.2.1,h.2.2.1⟩
  |exact absurd h (by simp[lZ])
theorem bO1 (W:World) (xs:List AV) (args:Array Value) (h:lZ Tryz.prog W 16 Tryz.f4.params.toList xs args.toList):
  Calls Tryz.prog 4 args W fun e W'=>e=.returned (.bool true)/\Below W.heap.size W W':=by
 have w:=lZ.tr h
 have i:∃d s,callF T40 (exec T40 d) 0 4 xs {h:=[],n:=0}=some (.v (.bool true),s):=by
  rw[Tryz.params4]at h
  obtain⟨G,H,J,F,v1,v2,rfl,⟨_,g0,c0,a⟩,⟨_,A,c1,b⟩,⟨_,g2,c2,f⟩⟩:=hD1 h
  rw[show aY Tryz.prog 22=false by kernel_rfl]at a
  obtain⟨q,j,x⟩:=rSl (B:=fun _=>True) (c:=aQ.g) (m:=9) (by kernel_rfl) (by kernel_rfl) (fun _ _ h=>y26 h) (fun _=>rfl) c0
  obtain⟨q0,C,rfl,l,r⟩:=x.inv_cons
  simp only[Bool.false_eq_true,if_false]at a
  rw[r.inv_nil,List.headD_cons]at a
  subst a
  rw[show aY Tryz.prog 3=false by kernel_rfl]at b
  obtain⟨a1,y⟩:=rInt (k:=.i64) (by kernel_rfl) c1
  obtain⟨q1,D,rfl,o,t⟩:=y.inv_cons
  simp only[Bool.false_eq_true,if_false]at b
  rw[t.inv_nil,List.headD_cons]at b
  subst b
  rw[show aY Tryz.prog 3=false by kernel_rfl]at f
  obtain⟨a2,z⟩:=rInt (k:=.i64) (by kernel_rfl) c2
  obtain⟨q2,E,rfl,p,u⟩:=z.inv_cons
  simp only[Bool.false_eq_true,if_false]at f
  rw[u.inv_nil,List.headD_cons]at f
  subst f
  exact bL1 (gH1 q ⟨lt62 j.1,j.2⟩ a1 a2) (.cons l (.cons o (.cons p .nil))) (by simp only[List.all_cons,List.all_nil,fY (d:=3) l rfl,fY (d:=3) o rfl,fY (d:=3) p rfl,Bool.and_self])
 obtain⟨d,s,i⟩:=i
 exact xK gG1 hB1 rfl i w
theorem vY (os:Os) (started:os.Started) (H:Type) (enc:TypeId×Value->H):
  ReturnsInHanded {} Tryz.checked os 4 .any (Rows.timelineSoundingSpec.pre6 enc Tryz.prog Tryz.f4 Rows.timelineSoundingRow.domain false) (Rows.timelineSoundingSpec.post enc Tryz.prog Tryz.f4 false true false false):=by
 refine returnsInHanded_of_change (C:=Tryz.checked) own started (by kernel_rfl) Tryz.func4
  (ChangeSpec.witness6 (enc:=enc) (C:=Tryz.checked) false ⟨#[],#[.slice none 0 0,.int .i64 0,.int .i64 0],[]⟩ 16 (by kernel_rfl) (by kernel_rfl) (by kernel_rfl) (by kernel_rfl)) ?_
 intro W base args b d before a e _ _
 refine qD (C:=Tryz.checked) (D:=16) (tb:=4) rfl ?_ (by kernel_rfl) Tryz.underlying4 (by kernel_rfl) bO1 W base args b d before a e
 intro b c
 have h2:b.length=3:=by rw[c];exact congrArg List.length (congrArg Array.toList Tryz.params4)
 match b,h2 with
 |[d0,d1,d2],_=>rfl
end Go.Proofs.YtccnabgijejljaaGreat
