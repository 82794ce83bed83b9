import Derived.Test.YtmocdkmjkfpkeaaGreatPl
import Derived.Test.YtmocdkmjkfpkeaaGreatTb
import Derived.Test.YtmocdkmjkfpkeaaGreatRows
import Derived.KernelRfl
/- A text of the proof. -/
set_option linter.all false
set_option maxRecDepth 100000
set_option maxHeartbeats 2000000
namespace Go.P
open Go.Sim (gP iM kR IFn iG AV qU nR pF kE runP exec zL)
open Go.Proofs
noncomputable section
theorem Nl {f e:Nat} (h:Xx f e=true):(f=180/\e=5)\/(f=181/\e=5)\/(f=182/\e=2):=by
 unfold Xx at h;simp only[nJ2,eL]at h;obtain⟨h1,a⟩:=h;have a:=oA2 a;simp at h1;rcases h1 with rfl|rfl|rfl<;>simp[a]
theorem Nm {M:Mm} (b:∀e∈M,e.1=6):∀f xs v,lB f=false->Tk false f xs=some v->oD (TM M) f xs v:=by
 intro f xs v _ h;have a:∀f,f≠6->∀ys,(TM M).memo f ys=none:=fun f hf ys=>nR (fun e he h=>hf ((h.symm.trans (b e he)))) ys;unfold Tk at h;split at h;rename_i e rows;cases hc:(Xx f e&&Nat.ble rows.length 1073741824)with
 |false=>rw[hc]at h;cases h
 |true=>
  rw[hc]at h;cases h;simp only[nJ2]at hc;obtain⟨h1,h2⟩:=hc;have h2:=oO2 h2;rcases Nl h1 with⟨rfl,rfl⟩|⟨rfl,rfl⟩|⟨rfl,rfl⟩
  exact Ba (show TM M 180=some (fY 85 5 40 [(.int .i64 0),(.int .i64 0),(.int .i64 0),(.bool false),(.int .i64 0)])by kernel_rfl) (a _ (by decide)) h2;exact Ba (show TM M 181=some (fY 95 5 40 [(.int .i64 0),(.int .i64 0),(.int .i64 0),(.int .i64 0),(.bool false)])by kernel_rfl) (a _ (by decide)) h2;exact Ba (show TM M 182=some (fY 97 2 24 [(.string ⟨#[]⟩),(.int .i64 0)])by kernel_rfl) (a _ (by decide)) h2
 cases h;cases h
theorem nB1 (M:Mm):cV1 (TM M) lB Si Mu Bc.run:=Sf
theorem Nn:kE Tryz.prog 9 [.agg (Dn 12 Xy.g)] (.v (.bool true)):=by
 refine Ka wI1 Qk (xs:=[.agg Xy.g]) ?_ (Pw (by kernel_rfl)) (by kernel_rfl);refine Xn (NW:=Bc) (Nm (M:=[]) (fun _ h=>by cases h)) (nB1 []) (nA1 (M:=[]) (fun _ h=>by cases h)) 26 9 _ _ ?_;rw[show Od (Tk false) lB Bc Mu 26 9 _=_ from ok9 0 Xy,show F9 Xy=some true by kernel_rfl];rfl
theorem Kl:kE Tryz.prog 9 [.agg (Dn 12 Kb.g)] (.v (.bool true)):=by
 refine Ka wI1 Qk (xs:=[.agg Kb.g]) ?_ (Pw (by kernel_rfl)) (by kernel_rfl);refine Xn (NW:=Bc) (Nm (M:=[]) (fun _ h=>by cases h)) (nB1 []) (nA1 (M:=[]) (fun _ h=>by cases h)) 26 9 _ _ ?_;rw[show Od (Tk false) lB Bc Mu 26 9 _=_ from ok9 0 Kb,show F9 Kb=some true by kernel_rfl];rfl
abbrev M2:Mm:=[(9,[.agg (Dn 12 Xy.g)],.v (.bool true)),(9,[.agg (Dn 12 Kb.g)],.v (.bool true))]
abbrev T2:iG:=⟨fun f=>(tl2[f]?).join,qU M2⟩
theorem gO2:gP Tryz.prog T2:=iM.tab (M:=M2) gN2 ⟨Nn,Kl,trivial⟩
theorem Te:runP T2 (exec T2 300) 6 ix6 []=some (.v (.bool true)):=by kernel_rfl
theorem Km:kE Tryz.prog 6 [] (.v (.bool true)):=zL (fn:=ix6) gO2 Qk (by kernel_rfl) rfl rfl Te
theorem nC1:gP Tryz.prog TBL:=iM.tab (M:=MK) wH1 ⟨Km,trivial⟩
theorem hJ1:∀f xs v,lB f=false->Tk true f xs=some v->oD TBL f xs v:=by
 intro f xs v hf h;by_cases a:xs=[]/\f=6;obtain⟨rfl,rfl⟩:=a;cases h;exact Xw (fn:=ix6) (by kernel_rfl) rfl rfl rfl;refine Nm aH1 f xs v hf ?_;unfold Tk at h ⊢;split at h;exact h;cases hc:Nat.beq f 6 with
 |false=>rw[hc]at h;cases h
 |true=>exact(a ⟨rfl,oA2 hc⟩).elim
 cases h
end
end Go.P
namespace Go.P
open Go.Sim Go.Proofs
theorem y41 {D:Nat} {cs:aA AV} (h:kQ Tryz.prog D 41 cs):∃x:YZ,(fun _=>True) x/\LR (RC false) x.g cs:=by
 obtain⟨D,h⟩:=eZ Tryz.underlying41 h;obtain⟨c0,d,rfl,_,h0,c1,d1,rfl,_,h1,e⟩:=h;subst e;obtain⟨a,b⟩:=fL (by kernel_rfl) h0;obtain⟨a1,c⟩:=fL (by kernel_rfl) h1;exact⟨⟨a,a1⟩,trivial,(b.append (c.append .nil))⟩
theorem y31 {D:Nat} {cs:aA AV} (h:kQ Tryz.prog D 31 cs):∃x:YL,(fun _=>True) x/\LR (RC false) x.g cs:=by
 obtain⟨D,h⟩:=eZ Tryz.underlying31 h;obtain⟨c0,d,rfl,_,h0,c1,d1,rfl,_,h1,e⟩:=h;subst e;obtain⟨a,b⟩:=fL (by kernel_rfl) h0;obtain⟨a1,c⟩:=fL (by kernel_rfl) h1;exact⟨⟨a,a1⟩,trivial,(b.append (c.append .nil))⟩
theorem y99 {D:Nat} {cs:aA AV} (h:kQ Tryz.prog D 99 cs):∃x:YF,(fun _=>True) x/\LR (RC false) x.g cs:=by
 obtain⟨D,h⟩:=eZ Tryz.underlying99 h;obtain⟨c0,f,rfl,_,h0,c1,d1,rfl,_,h1,e⟩:=h;subst e;obtain⟨a,d,b⟩:=y41 h0;obtain⟨a1,c⟩:=fL (by kernel_rfl) h1;exact⟨⟨a,a1⟩,trivial,(b.append (c.append .nil))⟩
theorem y62 {D:Nat} {cs:aA AV} (h:kQ Tryz.prog D 62 cs):∃x:YJ,(fun x=>x.b) x/\LR (RC false) x.g cs:=by
 obtain⟨D,h⟩:=eZ Tryz.underlying62 h;obtain⟨c0,n,rfl,_,h0,c1,d1,rfl,_,h1,c2,o,rfl,_,h2,c3,p,rfl,_,d,e⟩:=h;subst e;obtain⟨a,l,f⟩:=y41 h0;obtain⟨a1,b1,i⟩:=dA1 (by kernel_rfl) h1;obtain⟨a2,b2,j⟩:=y31 h2;obtain⟨a3,⟨b3,c3⟩,k⟩:=Pv (B:=fun _=>True) (c:=YF.g) (m:=3) (by kernel_rfl) (by kernel_rfl) (fun _ _ h=>y99 h) (fun _=>rfl) d;exact⟨⟨a,a1,a2,a3⟩,⟨oQ b1,oQ b3⟩,(f.append (i.append (j.append (k.append .nil))))⟩
theorem y42 {D:Nat} {cs:aA AV} (h:kQ Tryz.prog D 42 cs):∃x:Y6,True/\LR (RC false) x.g cs:=by
 obtain⟨D,rows,rfl,hl,h⟩:=yK1 (n:=6) (e:=3) (by kernel_rfl) h;obtain⟨f,r1,r2,r3,r4,r5,rfl⟩:=oK1 hl;obtain⟨a,h0⟩:=fL (by kernel_rfl) (h f (by simp)).2;obtain⟨a1,h1⟩:=fL (by kernel_rfl) (h r1 (by simp)).2;obtain⟨a2,h2⟩:=fL (by kernel_rfl) (h r2 (by simp)).2;obtain⟨a3,b⟩:=fL (by kernel_rfl) (h r3 (by simp)).2;obtain⟨a4,c⟩:=fL (by kernel_rfl) (h r4 (by simp)).2;obtain⟨a5,d⟩:=fL (by kernel_rfl) (h r5 (by simp)).2;exact⟨⟨a,a1,a2,a3,a4,a5⟩,trivial,(h0.append (h1.append (h2.append (b.append (c.append (d.append .nil))))))⟩
theorem y44 {D:Nat} {cs:aA AV} (h:kQ Tryz.prog D 44 cs):∃x:YX,(fun _=>True) x/\LR (RC false) x.g cs:=by
 obtain⟨D,h⟩:=eZ Tryz.underlying44 h;obtain⟨c0,f,rfl,_,h0,c1,d1,rfl,_,h1,c2,i,rfl,_,h2,e⟩:=h;subst e;obtain⟨a,b⟩:=fL (by kernel_rfl) h0;obtain⟨a1,c⟩:=fL (by kernel_rfl) h1;obtain⟨a2,b2,d⟩:=y42 h2;exact⟨⟨a,a1,a2⟩,trivial,(b.append (c.append (d.append .nil)))⟩
theorem gP2 {D:Nat} {cs:aA AV} (h:kQ Tryz.prog D 168 cs):∃x:YT,(fun _=>True) x/\LR (RC false) x.g cs:=by
 obtain⟨D,h⟩:=eZ Tryz.underlying168 h;obtain⟨c0,f,rfl,_,h0,c1,d1,rfl,_,h1,c2,i,rfl,_,h2,e⟩:=h;subst e;obtain⟨a,b⟩:=fL (by kernel_rfl) h0;obtain⟨a1,c⟩:=fL (by kernel_rfl) h1;obtain⟨a2,d⟩:=Jx (by kernel_rfl) h2;exact⟨⟨a,a1,a2⟩,trivial,(b.append (c.append (d.append .nil)))⟩
theorem gQ2 {D:Nat} {cs:aA AV} (h:kQ Tryz.prog D 128 cs):∃x:YC,(fun _=>True) x/\LR (RC false) x.g cs:=by
 obtain⟨D,h⟩:=eZ Tryz.underlying128 h;obtain⟨c0,d,rfl,_,h0,c1,d1,rfl,_,h1,e⟩:=h;subst e;obtain⟨a,b⟩:=fL (by kernel_rfl) h0;obtain⟨a1,c⟩:=fL (by kernel_rfl) h1;exact⟨⟨a,a1⟩,trivial,(b.append (c.append .nil))⟩
theorem y78 {D:Nat} {cs:aA AV} (h:kQ Tryz.prog D 78 cs):∃x:YA,(fun _=>True) x/\LR (RC false) x.g cs:=by
 obtain⟨D,h⟩:=eZ Tryz.underlying78 h;obtain⟨c0,d,rfl,_,h0,c1,d1,rfl,_,h1,e⟩:=h;subst e;obtain⟨a,b⟩:=fL (by kernel_rfl) h0;obtain⟨a1,c⟩:=fL (by kernel_rfl) h1;exact⟨⟨a,a1⟩,trivial,(b.append (c.append .nil))⟩
theorem y54 {D:Nat} {cs:aA AV} (h:kQ Tryz.prog D 54 cs):∃x:YH,(fun _=>True) x/\LR (RC false) x.g cs:=by
 obtain⟨D,h⟩:=eZ Tryz.underlying54 h;obtain⟨c0,f,rfl,_,h0,c1,d1,rfl,_,h1,c2,i,rfl,_,h2,e⟩:=h;subst e;obtain⟨a,b⟩:=fL (by kernel_rfl) h0;obtain⟨a1,c⟩:=fL (by kernel_rfl) h1;obtain⟨a2,d⟩:=fL (by kernel_rfl) h2;exact⟨⟨a,a1,a2⟩,trivial,(b.append (c.append (d.append .nil)))⟩
theorem y85 {D:Nat} {cs:aA AV} (h:kQ Tryz.prog D 85 cs):∃x:YB,(fun _=>True) x/\LR (RC false) x.g cs:=by
 obtain⟨D,h⟩:=eZ Tryz.underlying85 h;obtain⟨c0,i,rfl,_,h0,c1,d1,rfl,_,h1,c2,j,rfl,_,h2,e⟩:=h;subst e;obtain⟨a,f,b⟩:=y54 h0;obtain⟨a1,c⟩:=Jx (by kernel_rfl) h1;obtain⟨a2,d⟩:=fL (by kernel_rfl) h2;exact⟨⟨a,a1,a2⟩,trivial,(b.append (c.append (d.append .nil)))⟩
theorem y95 {D:Nat} {cs:aA AV} (h:kQ Tryz.prog D 95 cs):∃x:YD,(fun _=>True) x/\LR (RC false) x.g cs:=by
 obtain⟨D,h⟩:=eZ Tryz.underlying95 h;obtain⟨c0,i,rfl,_,h0,c1,d1,rfl,_,h1,c2,j,rfl,_,h2,e⟩:=h;subst e;obtain⟨a,f,b⟩:=y54 h0;obtain⟨a1,c⟩:=fL (by kernel_rfl) h1;obtain⟨a2,d⟩:=Jx (by kernel_rfl) h2;exact⟨⟨a,a1,a2⟩,trivial,(b.append (c.append (d.append .nil)))⟩
theorem y97 {D:Nat} {cs:aA AV} (h:kQ Tryz.prog D 97 cs):∃x:YY,(fun x=>x.b) x/\LR (RC false) x.g cs:=by
 obtain⟨D,h⟩:=eZ Tryz.underlying97 h;obtain⟨c0,i,rfl,_,h0,c1,d1,rfl,_,h1,e⟩:=h;subst e;obtain⟨a,c,d⟩:=dA1 (by kernel_rfl) h0;obtain⟨a1,f⟩:=fL (by kernel_rfl) h1;exact⟨⟨a,a1⟩,⟨oQ c⟩,(d.append (f.append .nil))⟩
theorem y83 {D:Nat} {cs:aA AV} (h:kQ Tryz.prog D 83 cs):∃x:YE,(fun x=>x.b) x/\LR (RC false) x.g cs:=by
 obtain⟨D,h⟩:=eZ Tryz.underlying83 h;obtain⟨c0,J,rfl,_,h0,c1,d1,rfl,_,h1,c2,K,rfl,_,h2,c3,L,rfl,_,n,c4,M,rfl,_,o,c5,N,rfl,_,p,c6,O,rfl,_,q,c7,P,rfl,_,r,c8,R,rfl,_,s,c9,S,rfl,_,t,c10,l,rfl,_,d,e⟩:=h;subst e;obtain⟨i,H,u⟩:=y41 h0;obtain⟨a1,v⟩:=fL (by kernel_rfl) h1;obtain⟨a2,b2,w⟩:=y78 h2;obtain⟨a3,⟨b3,c3⟩,y⟩:=Pv (B:=fun _=>True) (c:=YB.g) (m:=5) (by kernel_rfl) (by kernel_rfl) (fun _ _ h=>y85 h) (fun _=>rfl) n;obtain⟨a4,⟨j,c4⟩,z⟩:=Pv (B:=fun _=>True) (c:=YD.g) (m:=5) (by kernel_rfl) (by kernel_rfl) (fun _ _ h=>y95 h) (fun _=>rfl) o;obtain⟨a5,A⟩:=fL (by kernel_rfl) p;obtain⟨a6,C⟩:=fL (by kernel_rfl) q;obtain⟨a7,E⟩:=fL (by kernel_rfl) r;obtain⟨a8,⟨k,c8⟩,F⟩:=Pv (B:=fun x=>x.b) (c:=YY.g) (m:=2) (by kernel_rfl) (by kernel_rfl) (fun _ _ h=>y97 h) (fun _=>rfl) s;obtain⟨a9,G⟩:=fL (by kernel_rfl) t;obtain⟨a,f⟩:=fL (by kernel_rfl) d;exact⟨⟨i,a1,a2,a3,a4,a5,a6,a7,a8,a9,a⟩,⟨oQ b3,oQ j,oQ k,c8⟩,(u.append (v.append (w.append (y.append (z.append (A.append (C.append (E.append (F.append (G.append (f.append .nil)))))))))))⟩
theorem gR2 {D:Nat} {cs:aA AV} (h:kQ Tryz.prog D 294 cs):∃x:YU,(fun _=>True) x/\LR (RC false) x.g cs:=by
 obtain⟨D,h⟩:=eZ Tryz.underlying294 h;obtain⟨c0,j,rfl,_,h0,c1,d1,rfl,_,h1,c2,k,rfl,_,h2,c3,l,rfl,_,b,e⟩:=h;subst e;obtain⟨a,c⟩:=fL (by kernel_rfl) h0;obtain⟨a1,d⟩:=fL (by kernel_rfl) h1;obtain⟨a2,f⟩:=fL (by kernel_rfl) h2;obtain⟨a3,i⟩:=fL (by kernel_rfl) b;exact⟨⟨a,a1,a2,a3⟩,trivial,(c.append (d.append (f.append (i.append .nil))))⟩
theorem y72 {D:Nat} {cs:aA AV} (h:kQ Tryz.prog D 72 cs):∃x:YO,(fun x=>x.b) x/\LR (RC false) x.g cs:=by
 obtain⟨D,h⟩:=eZ Tryz.underlying72 h;obtain⟨c0,j,rfl,_,h0,c1,d1,rfl,_,h1,e⟩:=h;subst e;obtain⟨a,⟨d,c0⟩,f⟩:=Pv (B:=fun x=>x.b) (c:=YE.g) (m:=13) (by kernel_rfl) (by kernel_rfl) (fun _ _ h=>y83 h) (fun _=>rfl) h0;obtain⟨a1,⟨b1,c1⟩,i⟩:=Pv (B:=fun _=>True) (c:=YU.g) (m:=4) (by kernel_rfl) (by kernel_rfl) (fun _ _ h=>gR2 h) (fun _=>rfl) h1;exact⟨⟨a,a1⟩,⟨oQ d,c0,oQ b1⟩,(f.append (i.append .nil))⟩
theorem y67 {D:Nat} {cs:aA AV} (h:kQ Tryz.prog D 67 cs):∃x:YW,(fun x=>x.b) x/\LR (RC false) x.g cs:=by
 obtain⟨D,h⟩:=eZ Tryz.underlying67 h;obtain⟨c0,j,rfl,_,h0,c1,d1,rfl,_,h1,e⟩:=h;subst e;obtain⟨a,⟨d,c0⟩,f⟩:=Pv (B:=fun _=>True) (c:=YC.g) (m:=2) (by kernel_rfl) (by kernel_rfl) (fun _ _ h=>gQ2 h) (fun _=>rfl) h0;obtain⟨a1,⟨b1,c1⟩,i⟩:=Pv (B:=fun x=>x.b) (c:=YO.g) (m:=2) (by kernel_rfl) (by kernel_rfl) (fun _ _ h=>y72 h) (fun _=>rfl) h1;exact⟨⟨a,a1⟩,⟨oQ d,oQ b1,c1⟩,(f.append (i.append .nil))⟩
theorem y48 {D:Nat} {cs:aA AV} (h:kQ Tryz.prog D 48 cs):∃x:YM,(fun x=>x.b) x/\LR (RC false) x.g cs:=by
 obtain⟨D,h⟩:=eZ Tryz.underlying48 h;obtain⟨c0,X,rfl,_,h0,c1,d1,rfl,_,h1,c2,Y,rfl,_,h2,c3,Z,rfl,_,C,c4,d4,rfl,_,E,c5,d5,rfl,_,F,c6,d6,rfl,_,G,c7,d7,rfl,_,H,c8,d8,rfl,_,J,c9,d9,rfl,_,K,c10,w,rfl,_,n,c11,y,rfl,_,o,c12,z,rfl,_,p,c13,A,rfl,_,q,e⟩:=h;subst e;obtain⟨v,W,L⟩:=y41 h0;obtain⟨a1,b1,M⟩:=y44 h1;obtain⟨a2,N⟩:=fL (by kernel_rfl) h2;obtain⟨a3,O⟩:=fL (by kernel_rfl) C;obtain⟨a4,P⟩:=Jx (by kernel_rfl) E;obtain⟨a5,R⟩:=fL (by kernel_rfl) F;obtain⟨a6,S⟩:=fL (by kernel_rfl) G;obtain⟨a7,T⟩:=fL (by kernel_rfl) H;obtain⟨a8,U⟩:=fL (by kernel_rfl) J;obtain⟨a9,V⟩:=fL (by kernel_rfl) K;obtain⟨a,r⟩:=fL (by kernel_rfl) n;obtain⟨d,j,s⟩:=dA1 (by kernel_rfl) o;obtain⟨f,⟨k,c12⟩,t⟩:=Pv (B:=fun _=>True) (c:=YT.g) (m:=3) (by kernel_rfl) (by kernel_rfl) (fun _ _ h=>gP2 h) (fun _=>rfl) p;obtain⟨i,⟨l,c13⟩,u⟩:=Pv (B:=fun x=>x.b) (c:=YW.g) (m:=2) (by kernel_rfl) (by kernel_rfl) (fun _ _ h=>y67 h) (fun _=>rfl) q;exact⟨⟨v,a1,a2,a3,a4,a5,a6,a7,a8,a9,a,d,f,i⟩,⟨oQ j,oQ k,oQ l,c13⟩,(L.append (M.append (N.append (O.append (P.append (R.append (S.append (T.append (U.append (V.append (r.append (s.append (t.append (u.append .nil))))))))))))))⟩
theorem gS2 {D:Nat} {cs:aA AV} (h:kQ Tryz.prog D 156 cs):∃x:YN,(fun _=>True) x/\LR (RC false) x.g cs:=by
 obtain⟨D,h⟩:=eZ Tryz.underlying156 h;obtain⟨c0,k,rfl,_,h0,c1,d1,rfl,_,h1,c2,l,rfl,_,h2,c3,m,rfl,_,b,e⟩:=h;subst e;obtain⟨a,j,c⟩:=y41 h0;obtain⟨a1,d⟩:=fL (by kernel_rfl) h1;obtain⟨a2,b2,f⟩:=y41 h2;obtain⟨a3,b3,i⟩:=y41 b;exact⟨⟨a,a1,a2,a3⟩,trivial,(c.append (d.append (f.append (i.append .nil))))⟩
theorem y27 {D:Nat} {cs:aA AV} (h:kQ Tryz.prog D 27 cs):∃x:Y0,(fun x=>x.b) x/\LR (RC false) x.g cs:=by
 obtain⟨D,h⟩:=eZ Tryz.underlying27 h;obtain⟨c0,t,rfl,_,h0,c1,d1,rfl,_,h1,c2,u,rfl,_,h2,c3,v,rfl,_,j,c4,w,rfl,_,k,c5,y,rfl,_,l,e⟩:=h;subst e;obtain⟨a,d,n⟩:=dA1 (by kernel_rfl) h0;obtain⟨a1,o⟩:=Jx (by kernel_rfl) h1;obtain⟨a2,⟨b2,c2⟩,p⟩:=Pv (B:=fun x=>x.b) (c:=YJ.g) (m:=6) (by kernel_rfl) (by kernel_rfl) (fun _ _ h=>y62 h) (fun _=>rfl) h2;obtain⟨a3,⟨b3,c3⟩,q⟩:=Pv (B:=fun x=>x.b) (c:=YM.g) (m:=22) (by kernel_rfl) (by kernel_rfl) (fun _ _ h=>y48 h) (fun _=>rfl) j;obtain⟨a4,⟨f,c4⟩,r⟩:=Pv (B:=fun _=>True) (c:=YN.g) (m:=7) (by kernel_rfl) (by kernel_rfl) (fun _ _ h=>gS2 h) (fun _=>rfl) k;obtain⟨a5,⟨i,c5⟩,s⟩:=Pv (B:=fun _=>True) (c:=YZ.g) (m:=2) (by kernel_rfl) (by kernel_rfl) (fun _ _ h=>y41 h) (fun _=>rfl) l;exact⟨⟨a,a1,a2,a3,a4,a5⟩,⟨oQ d,oQ b2,c2,oQ b3,c3,oQ f,oQ i⟩,(n.append (o.append (p.append (q.append (r.append (s.append .nil))))))⟩
end Go.P
