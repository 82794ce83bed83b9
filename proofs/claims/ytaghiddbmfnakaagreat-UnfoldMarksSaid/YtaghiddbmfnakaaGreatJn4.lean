import Derived.Test.YtaghiddbmfnakaaGreatJb
import Derived.Test.YtaghiddbmfnakaaGreatRows
/- A text of the proof. -/
set_option linter.all false
set_option maxRecDepth 100000
namespace Go.P
open Go.Sim Go.Proofs
theorem jF1 (a:aA bJ) (b:a.length<9223372036854775808/\∀x∈a,(fun _=>True) x):mO TBL 4 [.is 5 (a.map bJ.g)] (bv true):=by
 refine eB1 (NW:=Cw) dJ1 (rK1 MK) rI1 28 4 _ _ ?_;rw[show Od (Tj true) jE Cw Jg 28 4 _=_ from ok4 0 a,bU2 a];rfl
end Go.P
namespace Go.Proofs.YtaghiddbmfnakaaGreat
open Go.Sim Go.P Go.ChangeShapes Go.WideShapes Go.ChangeAt Go.RowKit
theorem own:ownKnob Tryz.prog.godebug=none:=by kernel_rfl
theorem rL1 {P:Program} {W:World} {D:Nat} {c:TypeId} {xs:aA AV} {vs:aA Value} (h:pL P W D #[c].toList xs vs):∃a b,xs=[a]/\fS1 P W D c a b:=by
 rcases xs with _|⟨a,_|⟨x1,_⟩⟩<;>rcases vs with _|⟨b,_|⟨v1,_⟩⟩<;>first
  |exact⟨a,b,rfl,h.1⟩
  |exact absurd h (by simp[pL])
theorem Wh (W:World) (xs:aA AV) (args:Array Value) (h:pL Tryz.prog W 16 Tryz.f4.params.toList xs args.toList):
  Calls Tryz.prog 4 args W fun e W'=>e=.returned (.bool true)/\Below W.heap.size W W':=by
 have l:=pL.tr h
 have b:∃d s,callF TBL (exec TBL d) 0 4 xs {h:=[],n:=0}=some (.v (.bool true),s):=by
  rw[Tryz.params4]at h;obtain⟨r,q,rfl,⟨_,g0,c0,a⟩⟩:=rL1 h;rw[show cK Tryz.prog 39=false by kernel_rfl]at a;obtain⟨j,f,o⟩:=rSl (e:=89) (B:=fun _=>True) (c:=bJ.g) (m:=5) (by kernel_rfl) (by kernel_rfl) (fun _ _ h=>y89 h) (fun _=>rfl) c0;obtain⟨q0,p,rfl,i,k⟩:=o.inv_cons;simp only[iQ2,jS2]at a;rw[k.inv_nil,List.headD_cons]at a;subst a;exact Tc (jF1 j ⟨tD1 f.1,f.2⟩) (.cons i .nil) (by simp only[kD2,List.all_nil,Cv (d:=3) i rfl,lT2])
 obtain⟨d,s,b⟩:=b;exact Nj jE1 We rfl b l
theorem Kg (os:Os) (started:os.Started) (H:Type) (enc:TypeId×Value->H):
  ReturnsInHanded {} Tryz.checked os 4 .any (Rows.unfoldMarksSpec.pre6 enc Tryz.prog Tryz.f4 Rows.unfoldMarksRow.domain false) (Rows.unfoldMarksSpec.post enc Tryz.prog Tryz.f4 false true false false):=by
 refine returnsInHanded_of_change (C:=Tryz.checked) own started (by kernel_rfl) Tryz.func4
  (ChangeSpec.witness6 (enc:=enc) (C:=Tryz.checked) false ⟨#[],#[.slice none 0 0],[]⟩ 16 (by kernel_rfl) (by kernel_rfl) (by kernel_rfl) (by kernel_rfl)) ?_
 intro W base args b d before a e _ _;refine Cc (C:=Tryz.checked) (D:=16) (tb:=4) rfl ?_ (by kernel_rfl) Tryz.underlying4 (by kernel_rfl) Wh W base args b d before a e;intro b c;have h2:b.length=1:=by rw[c];exact congrArg List.length (congrArg Array.toList Tryz.params4)
 match b,h2 with
 |[d0],_=>rfl
end Go.Proofs.YtaghiddbmfnakaaGreat
