import Derived.Test.YtflklffaiianhaaGreatJb
import Derived.Test.YtflklffaiianhaaGreatRows
/- A text of the proof. -/
set_option linter.all false
set_option maxRecDepth 100000
namespace Go.P
open Go.Sim Go.Proofs
theorem nD (s:Z0) (hb:s.b):FnOK T40 6 [.agg s.g] (bv true):=by
 refine cW1 (NW:=NW40) qG cZ1 29 6 _ _ ?_
 rw[show Od B40 NF40 NW40 P40 29 6 _=_ from ok6 0 s,law6 hb]
 rfl
end Go.P
namespace Go.Proofs.YtflklffaiianhaaGreat
open Go.Sim Go.P Go.ChangeShapes Go.WideShapes Go.ChangeAt Go.RowKit
theorem own:ownKnob Tryz.prog.godebug=none:=by kernel_rfl
theorem uJ:Tryz.prog.follows .mixedOrders=true:=by kernel_rfl
theorem fV1 {P:Program} {W:World} {D:Nat} {a:TypeId} {xs:List AV} {vs:List Value} (h:eK P W D #[a].toList xs vs):∃x v,xs=[x]/\ArgR P W D a x v:=by
 rcases xs with _|⟨x,_|⟨y,xs⟩⟩<;>rcases vs with _|⟨v,_|⟨w,vs⟩⟩<;>first
  |exact⟨x,v,rfl,h.1⟩
  |exact absurd h (by simp[eK])
theorem fU (W:World) (xs:List AV) (args:Array Value) (h:eK Tryz.prog W 16 Tryz.f6.params.toList xs args.toList):
  Calls Tryz.prog 6 args W fun e W'=>e=.returned (.bool true)/\Below W.heap.size W W':=by
 have b:=eK.tr h
 have a:∃d s,callF T40 (exec T40 d) 0 6 xs {h:=[],n:=0}=some (.v (.bool true),s):=by
  rw[Tryz.params6]at h
  obtain⟨x,v,rfl,⟨_,cs,hc,a⟩⟩:=fV1 h
  rw[show bF Tryz.prog 27=true by kernel_rfl]at a
  obtain⟨s,hb,hl⟩:=y27 hc
  simp only[if_true]at a
  subst a
  exact lE (nD s hb) (.cons (.agg hl.1 hl.2) .nil) (by simp only[List.all_cons,List.all_nil,iA hl rfl,Bool.and_self])
 obtain⟨d,s,a⟩:=a
 exact jB wB uJ rfl a b
theorem dO (os:Os) (started:os.Started) (H:Type) (enc:TypeId×Value->H):
  ReturnsInHanded {} Tryz.checked os 6 .any (Rows.multirestLongestSpec.pre6 enc Tryz.prog Tryz.f6 Rows.multirestLongestRow.domain false) (Rows.multirestLongestSpec.post enc Tryz.prog Tryz.f6 false true false false):=by
 refine returnsInHanded_of_change (C:=Tryz.checked) own started (by kernel_rfl) Tryz.func6
  (ChangeSpec.witness6 (enc:=enc) (C:=Tryz.checked) false ⟨#[],#[.agg #[.string ⟨#[]⟩,.bool false,.slice none 0 0,.slice none 0 0,.slice none 0 0,.slice none 0 0]],[]⟩ 16 (by kernel_rfl) (by kernel_rfl) (by kernel_rfl) (by kernel_rfl)) ?_
 intro W base args b d before a e _ _
 refine eO (C:=Tryz.checked) (D:=16) (tb:=4) rfl ?_ (by kernel_rfl) Tryz.underlying4 (by kernel_rfl) fU W base args b d before a e
 intro b c
 have h2:b.length=1:=by rw[c];exact congrArg List.length (congrArg Array.toList Tryz.params6)
 match b,h2 with
 |[d1],_=>rfl
end Go.Proofs.YtflklffaiianhaaGreat
