import Derived.Test.YtajloalceibekaaGreatJb
import Derived.Test.YtajloalceibekaaGreatRows
/- A text of the proof. -/
set_option linter.all false
set_option maxRecDepth 100000
namespace Go.P
open Go.Sim Go.Proofs
theorem kZ1 (a:Z0) (b:a.c) (a1:Int):FnOK TBL 4 [.agg a.g,i64 a1] (bv true):=by
 refine iN1 (NW:=NW40) iY1 (nb_M MK) mN1 29 4 _ _ ?_
 rw[show Od (B40 true) NF40 NW40 P40 29 4 _=_ from ok4 0 a a1,law4 b a1]
 rfl
end Go.P
namespace Go.Proofs.YtajloalceibekaaGreat
open Go.Sim Go.P Go.ChangeShapes Go.WideShapes Go.ChangeAt Go.RowKit
theorem own:ownKnob Tryz.prog.godebug=none:=by kernel_rfl
theorem mO1 {P:Program} {W:World} {D:Nat} {d e:TypeId} {xs:List AV} {vs:List Value} (h:nI P W D #[d,e].toList xs vs):∃a b c v1,xs=[a,b]/\ArgR P W D d a c/\ArgR P W D e b v1:=by
 rcases xs with _|⟨a,_|⟨b,_|⟨x2,_⟩⟩⟩<;>rcases vs with _|⟨c,_|⟨v1,_|⟨v2,_⟩⟩⟩<;>first
  |exact⟨a,b,c,v1,rfl,h.1,h.2.1⟩
  |exact absurd h (by simp[nI])
theorem fR1 (W:World) (xs:List AV) (args:Array Value) (h:nI Tryz.prog W 16 Tryz.f4.params.toList xs args.toList) (l:hK1 1048576 xs):
  Calls Tryz.prog 4 args W fun e W'=>e=.returned (.bool true)/\Below W.heap.size W W':=by
 have m:=nI.tr h
 have c:∃d s,callF TBL (exec TBL d) 0 4 xs {h:=[],n:=0}=some (.v (.bool true),s):=by
  rw[Tryz.params4]at h
  obtain⟨u,w,t,v1,rfl,⟨_,g0,c0,f⟩,⟨_,q,c1,a⟩⟩:=mO1 h
  rw[show bF Tryz.prog 31=true by kernel_rfl]at f
  obtain⟨i,p,b⟩:=y31 c0
  simp only[nU1]at f
  subst f
  rw[show bF Tryz.prog 3=false by kernel_rfl]at a
  obtain⟨a1,o⟩:=rInt (k:=.i64) (by kernel_rfl) c1
  obtain⟨q1,r,rfl,g,j⟩:=o.inv_cons
  simp only[nD1,oI1]at a
  rw[j.inv_nil,List.headD_cons]at a
  subst a
  exact fM1 (kZ1 i (fP1 b (l _ (by simp) 6)) a1) (.cons (.agg b.1 b.2) (.cons g .nil)) (by simp only[oO1,List.all_nil,zI b rfl,lR (d:=3) g rfl,qH1])
 obtain⟨d,s,c⟩:=c
 exact aT1 kY1 fQ1 rfl c m
theorem bk1 {H:Type} (d:DataW H):1<=Rows.uptoBulk d:=by
 cases d with
 |iface a b=>simp[Rows.uptoBulk]
 |lit l=>cases l<;>simp[Rows.uptoBulk]
 |_=>simp[Rows.uptoBulk]
theorem bkA {H:Type}:∀(l:List (DataW H)),l.length<=Rows.uptoBulkAll l/\∀x∈l,Rows.uptoBulk x<=Rows.uptoBulkAll l
 |[]=>⟨mU1 _,fun x h=>(oT1 h).elim⟩
 |d::r=>by
  obtain⟨h1,h2⟩:=bkA r
  have b:=bk1 d
  have e:Rows.uptoBulkAll (d::r)=Rows.uptoBulk d+Rows.uptoBulkAll r:=by simp[Rows.uptoBulkAll]
  rw[e]
  refine⟨by rw[oB1];omega,fun x a=>?_⟩
  rcases nL1.1 a with rfl|a
  .omega
  .have:=h2 x a;omega
theorem bkk {H:Type}:BK (Rows.uptoBulk (H:=H)):=
 ⟨fun e s=>by have:=(bkA e).1;simp only[Rows.uptoBulk];omega,fun e s x a=>by have:=(bkA e).2 x a;simp only[Rows.uptoBulk];omega,fun ps x a=>by have:=(bkA ps).2 x a;simp only[Rows.uptoBulk];omega⟩
theorem zM (os:Os) (started:os.Started) (H:Type) (enc:TypeId×Value->H) (F:Stop.Interp):
  ReturnsInHanded {} Tryz.checked os 4 .any ((Rows.OpenSpec.upto Rows.condenseRuleSpec).pre6 enc Tryz.prog Tryz.f4 Rows.condenseRuleUptoRow.domain false) (((Rows.OpenSpec.upto Rows.condenseRuleSpec).at F).post enc Tryz.prog Tryz.f4 false true false false):=by
 refine returnsInHanded_of_cond (C:=Tryz.checked) (k:=Rows.uptoSmall) rfl own started (by kernel_rfl) Tryz.func4
  (OpenSpec.witness (enc:=enc) (C:=Tryz.checked) (k:=Rows.uptoSmall) (x:=([.agg [.lit (.string []),.lit (.bool false),.nil,.nil,.nil,.nil],.lit (.int .i64 0)],[],[])) rfl false ⟨#[],#[.agg #[.string ⟨#[]⟩,.bool false,.slice none 0 0,.slice none 0 0,.slice none 0 0,.slice none 0 0],.int .i64 0],[]⟩ 16 (by kernel_rfl) (by kernel_rfl) (by kernel_rfl) (by kernel_rfl) (by kernel_rfl) (by kernel_rfl) (by kernel_rfl)) ?_
 intro W base args b e before a f _ hk _
 refine qZ (C:=Tryz.checked) (D:=16) (tb:=4) bkk (M:=1048576) rfl ?_ (by kernel_rfl) Tryz.underlying4 (by kernel_rfl) fR1 W base args b e before a f (fun d hd=>nQ1 ((bkA _).2 d hd) (of_decide_eq_true hk))
 intro b c
 have h2:b.length=2:=by rw[c];exact congrArg List.length (congrArg Array.toList Tryz.params4)
 match b,h2 with
 |[d0,d1],_=>rfl
end Go.Proofs.YtajloalceibekaaGreat
