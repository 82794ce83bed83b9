import Derived.Test.YtflklffaiianhaaGreatJb
import Derived.Test.YtflklffaiianhaaGreatRows
/- A text of the proof. -/
set_option linter.all false
set_option maxRecDepth 100000
namespace Go.P
open Go.Sim Go.Proofs
theorem nD (s:Z0) (n:Int) (hb:s.b):FnOK T40 7 [.agg s.g,i64 n] (bv true):=by
 refine cW1 (NW:=NW40) qG cZ1 29 7 _ _ ?_
 rw[show Od B40 NF40 NW40 P40 29 7 _=_ from ok7 0 s n,law7 hb n]
 rfl
end Go.P
namespace Go.Proofs.YtflklffaiianhaaGreat
open Go.Sim Go.P Go.ChangeShapes Go.WideShapes Go.ChangeAt Go.RowKit
theorem own:ownKnob Tryz.prog.godebug=none:=by kernel_rfl
theorem uJ:Tryz.prog.follows .mixedOrders=true:=by kernel_rfl
theorem fW1 {P:Program} {W:World} {D:Nat} {a b:TypeId} {xs:List AV} {vs:List Value} (h:eK P W D #[a,b].toList xs vs):∃x y v w,xs=[x,y]/\ArgR P W D a x v/\ArgR P W D b y w:=by
 rcases xs with _|⟨x,_|⟨y,_|⟨z,xs⟩⟩⟩<;>rcases vs with _|⟨v,_|⟨w,_|⟨w2,vs⟩⟩⟩<;>first
  |exact⟨x,y,v,w,rfl,h.1,h.2.1⟩
  |exact absurd h (by simp[eK])
theorem fU (W:World) (xs:List AV) (args:Array Value) (h:eK Tryz.prog W 16 Tryz.f7.params.toList xs args.toList):
  Calls Tryz.prog 7 args W fun e W'=>e=.returned (.bool true)/\Below W.heap.size W W':=by
 have g:=eK.tr h
 have a:∃d s,callF T40 (exec T40 d) 0 7 xs {h:=[],n:=0}=some (.v (.bool true),s):=by
  rw[Tryz.params7]at h
  obtain⟨x,y,v,w,rfl,⟨_,cs,hc,a⟩,⟨_,cs2,b,hy⟩⟩:=fW1 h
  rw[show bF Tryz.prog 27=true by kernel_rfl]at a
  rw[show bF Tryz.prog 3=false by kernel_rfl]at hy
  obtain⟨s,hb,hl⟩:=y27 hc
  obtain⟨n,f⟩:=rInt (k:=.i64) (by kernel_rfl) b
  simp only[if_true,Bool.false_eq_true,if_false]at a hy
  subst a
  obtain⟨c,ct,rfl,h1,h2⟩:=f.inv_cons
  rw[h2.inv_nil,List.headD_cons]at hy
  subst hy
  exact lE (nD s n hb) (.cons (.agg hl.1 hl.2) (.cons h1 .nil)) (by simp only[List.all_cons,List.all_nil,iA hl rfl,gQ (d:=3) h1 rfl,Bool.and_self])
 obtain⟨d,s,a⟩:=a
 exact jB wB uJ rfl a g
theorem dO (os:Os) (started:os.Started) (H:Type) (enc:TypeId×Value->H):
  ReturnsInHanded {} Tryz.checked os 7 .any (Rows.multirestOriginalsSpec.pre6 enc Tryz.prog Tryz.f7 Rows.multirestOriginalsRow.domain false) (Rows.multirestOriginalsSpec.post enc Tryz.prog Tryz.f7 false true false false):=by
 refine returnsInHanded_of_change (C:=Tryz.checked) own started (by kernel_rfl) Tryz.func7
  (ChangeSpec.witness6 (enc:=enc) (C:=Tryz.checked) false ⟨#[],#[.agg #[.string ⟨#[]⟩,.bool false,.slice none 0 0,.slice none 0 0,.slice none 0 0,.slice none 0 0],.int .i64 0],[]⟩ 16 (by kernel_rfl) (by kernel_rfl) (by kernel_rfl) (by kernel_rfl)) ?_
 intro W base args b d before a e _ _
 refine eO (C:=Tryz.checked) (D:=16) (tb:=4) rfl ?_ (by kernel_rfl) Tryz.underlying4 (by kernel_rfl) fU W base args b d before a e
 intro b c
 have h2:b.length=2:=by rw[c];exact congrArg List.length (congrArg Array.toList Tryz.params7)
 match b,h2 with
 |[d1,d2],_=>rfl
end Go.Proofs.YtflklffaiianhaaGreat
