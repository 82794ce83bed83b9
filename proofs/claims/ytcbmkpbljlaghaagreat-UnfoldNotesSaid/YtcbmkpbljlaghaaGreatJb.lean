import Derived.Test.YtcbmkpbljlaghaaGreatPl
import Derived.Test.YtcbmkpbljlaghaaGreatTb
import Derived.Test.YtcbmkpbljlaghaaGreatRows
import Derived.KernelRfl
/- A text of the proof. -/
set_option linter.all false
set_option maxRecDepth 100000
set_option maxHeartbeats 2000000
namespace Go.P
open Go.Sim (fE gC iP IFn gB AV oQ lU nG iZ runP exec wK)
open Go.Proofs
noncomputable section
theorem Kl {f e:Nat} (h:Uh f e=true):(f=186/\e=5)\/(f=187/\e=5)\/(f=188/\e=2):=by
 unfold Uh at h;simp only[kL2,fQ]at h;obtain⟨h1,a⟩:=h;have a:=lD2 a;simp at h1;rcases h1 with rfl|rfl|rfl<;>simp[a]
theorem Km {M:Mm} (b:∀e∈M,e.1=7):∀f xs v,iH f=false->Qn false f xs=some v->lE (TM M) f xs v:=by
 intro f xs v _ h;have a:∀f,f≠7->∀ys,(TM M).memo f ys=none:=fun f hf ys=>lU (fun e he h=>hf ((h.symm.trans (b e he)))) ys;unfold Qn at h;split at h;rename_i e rows;cases hc:(Uh f e&&Nat.ble rows.length 1073741824)with
 |false=>rw[hc]at h;cases h
 |true=>
  rw[hc]at h;cases h;simp only[kL2]at hc;obtain⟨h1,h2⟩:=hc;have h2:=kW2 h2;rcases Kl h1 with⟨rfl,rfl⟩|⟨rfl,rfl⟩|⟨rfl,rfl⟩
  exact xR (show TM M 186=some (fC 168 5 40 [(.int .i64 0),(.int .i64 0),(.int .i64 0),(.bool false),(.int .i64 0)])by kernel_rfl) (a _ (by decide)) h2;exact xR (show TM M 187=some (fC 172 5 40 [(.int .i64 0),(.int .i64 0),(.int .i64 0),(.int .i64 0),(.bool false)])by kernel_rfl) (a _ (by decide)) h2;exact xR (show TM M 188=some (fC 103 2 24 [(.string ⟨#[]⟩),(.int .i64 0)])by kernel_rfl) (a _ (by decide)) h2
 cases h;cases h
theorem tD1 [Inhabited Rc] (M:Mm):yO (TM M) iH Dp (nU clN):=Pf (cl:=clN) fun f p h=>by
 unfold clN at h
 cases h
theorem Wp (M:Mm) (c:∀e∈M,e.1=7):∀k,yO (TM M) iH Dp (@uG ⟨⟨Dd k⟩⟩).run
 |0=>Mc (@tD1 ⟨⟨Dd 0⟩⟩ M) fun f xs h n v h' n' C s lim ys _ _ hk=>by
  obtain⟨_,_,a,b,_,_,hg,_⟩:=uA hk
  cases hg
 |k+1=>Mc (@tD1 ⟨⟨Dd 0⟩⟩ M)<|by
  obtain⟨d,g⟩:=Tw (P:=Dp) (Km c) (Wp M c k) (kI1 c) 3
  refine Pc (fn:=hQ1) d g (f0:=170) (by kernel_rfl) (by rw[Gj];kernel_rfl) fun f xs h n v h' n' hk=>?_
  obtain⟨rfl,rfl,a,b,rfl,rfl,hg,he⟩:=uA hk
  cases he
  refine⟨rfl,rfl,?_⟩
  have hg:xW (Dd k) a.1 a.2.1 a.2.2.1 a.2.2.2=some b:=hg
  exact(@iN1 ⟨⟨Dd k⟩⟩ false 0 a.1 a.2.1 a.2.2.1 a.2.2.2).trans ((congrArg (Option.map _) hg).trans rfl)
theorem tE1 (M:Mm) (a:∀e∈M,e.1=7:=by first|exact Kk|(intro _ h;cases h)):yO (TM M) iH Dp uG.run:=Wp M a 64
theorem Kn:iZ Tryz.prog 11 [.agg (Md 12 Ui.g)] (.v (.bool true)):=by
 refine Uf dR2 Wo (xs:=[.agg Ui.g]) ?_ (Za (by kernel_rfl)) (by kernel_rfl);refine eT1 (NW:=uG) (Km (M:=[]) (fun _ h=>by cases h)) (tE1 []) (kI1 (M:=[]) (fun _ h=>by cases h)) 26 11 _ _ ?_;rw[show Od (Qn false) iH uG Dp 26 11 _=_ from Vn 0 Ui,show Jx Ui=some true by kernel_rfl];rfl
abbrev M2:Mm:=[(11,[.agg (Md 12 Ui.g)],.v (.bool true))]
abbrev T2:gB:=⟨fun f=>(tl2[f]?).join,oQ M2⟩
theorem dS2:fE Tryz.prog T2:=gC.tab (M:=M2) dQ2 ⟨Kn,trivial⟩
theorem Qg:runP T2 (exec T2 300) 7 ix7 []=some (.v (.bool true)):=by kernel_rfl
theorem Hj:iZ Tryz.prog 7 [] (.v (.bool true)):=wK (fn:=ix7) dS2 Wo (by kernel_rfl) rfl rfl Qg
theorem kJ1:fE Tryz.prog TBL:=gC.tab (M:=MK) tC1 ⟨Hj,trivial⟩
theorem eC1:∀f xs v,iH f=false->Qn true f xs=some v->lE TBL f xs v:=by
 intro f xs v hf h;by_cases a:xs=[]/\f=7;obtain⟨rfl,rfl⟩:=a;cases h;exact Ug (fn:=ix7) (by kernel_rfl) rfl rfl rfl;refine Km Kk f xs v hf ?_;unfold Qn at h ⊢;split at h;exact h;cases hc:Nat.beq f 7 with
 |false=>rw[hc]at h;cases h
 |true=>exact(a ⟨rfl,lD2 hc⟩).elim
 cases h
end
end Go.P
namespace Go.P
open Go.Sim Go.Proofs
theorem y39 {D:Nat} {cs:aA AV} (h:iN Tryz.prog D 39 cs):∃x:YZ,(fun _=>True) x/\LR (RC false) x.g cs:=by
 obtain⟨D,h⟩:=dT Tryz.underlying39 h;obtain⟨c0,d0,rfl,_,h0,c1,d,rfl,_,h1,e⟩:=h;subst e;obtain⟨a,b⟩:=eE (by kernel_rfl) h0;obtain⟨a1,c⟩:=eE (by kernel_rfl) h1;exact⟨⟨a,a1⟩,trivial,(b.append (c.append .nil))⟩
theorem y53 {D:Nat} {cs:aA AV} (h:iN Tryz.prog D 53 cs):∃x:YL,(fun _=>True) x/\LR (RC false) x.g cs:=by
 obtain⟨D,h⟩:=dT Tryz.underlying53 h;obtain⟨c0,d0,rfl,_,h0,c1,d,rfl,_,h1,e⟩:=h;subst e;obtain⟨a,b⟩:=eE (by kernel_rfl) h0;obtain⟨a1,c⟩:=eE (by kernel_rfl) h1;exact⟨⟨a,a1⟩,trivial,(b.append (c.append .nil))⟩
theorem dT2 {D:Nat} {cs:aA AV} (h:iN Tryz.prog D 105 cs):∃x:YF,(fun _=>True) x/\LR (RC false) x.g cs:=by
 obtain⟨D,h⟩:=dT Tryz.underlying105 h;obtain⟨c0,d0,rfl,_,h0,c1,f,rfl,_,h1,e⟩:=h;subst e;obtain⟨a,d,b⟩:=y39 h0;obtain⟨a1,c⟩:=eE (by kernel_rfl) h1;exact⟨⟨a,a1⟩,trivial,(b.append (c.append .nil))⟩
theorem y56 {D:Nat} {cs:aA AV} (h:iN Tryz.prog D 56 cs):∃x:YJ,(fun x=>x.b) x/\LR (RC false) x.g cs:=by
 obtain⟨D,h⟩:=dT Tryz.underlying56 h;obtain⟨c0,d0,rfl,_,h0,c1,n,rfl,_,h1,c2,o,rfl,_,h2,c3,p,rfl,_,d,e⟩:=h;subst e;obtain⟨a,l,f⟩:=y39 h0;obtain⟨a1,b1,i⟩:=Yx (by kernel_rfl) h1;obtain⟨a2,b2,j⟩:=y53 h2;obtain⟨a3,⟨b3,c3⟩,k⟩:=Jp (B:=fun _=>True) (c:=YF.g) (m:=3) (by kernel_rfl) (by kernel_rfl) (fun _ _ h=>dT2 h) (fun _=>rfl) d;exact⟨⟨a,a1,a2,a3⟩,⟨mH b1,mH b3⟩,(f.append (i.append (j.append (k.append .nil))))⟩
theorem y57 {D:Nat} {cs:aA AV} (h:iN Tryz.prog D 57 cs):∃x:Y6,True/\LR (RC false) x.g cs:=by
 obtain⟨D,rows,rfl,hl,h⟩:=uV1 (n:=6) (e:=3) (by kernel_rfl) h;obtain⟨f,i,j,k,l,m,rfl⟩:=lR1 hl;obtain⟨a,h0⟩:=eE (by kernel_rfl) (h f (by simp)).2;obtain⟨a1,h1⟩:=eE (by kernel_rfl) (h i (by simp)).2;obtain⟨a2,h2⟩:=eE (by kernel_rfl) (h j (by simp)).2;obtain⟨a3,b⟩:=eE (by kernel_rfl) (h k (by simp)).2;obtain⟨a4,c⟩:=eE (by kernel_rfl) (h l (by simp)).2;obtain⟨a5,d⟩:=eE (by kernel_rfl) (h m (by simp)).2;exact⟨⟨a,a1,a2,a3,a4,a5⟩,trivial,(h0.append (h1.append (h2.append (b.append (c.append (d.append .nil))))))⟩
theorem y59 {D:Nat} {cs:aA AV} (h:iN Tryz.prog D 59 cs):∃x:YX,(fun _=>True) x/\LR (RC false) x.g cs:=by
 obtain⟨D,h⟩:=dT Tryz.underlying59 h;obtain⟨c0,d0,rfl,_,h0,c1,f,rfl,_,h1,c2,i,rfl,_,h2,e⟩:=h;subst e;obtain⟨a,b⟩:=eE (by kernel_rfl) h0;obtain⟨a1,c⟩:=eE (by kernel_rfl) h1;obtain⟨a2,b2,d⟩:=y57 h2;exact⟨⟨a,a1,a2⟩,trivial,(b.append (c.append (d.append .nil)))⟩
theorem dU2 {D:Nat} {cs:aA AV} (h:iN Tryz.prog D 201 cs):∃x:YT,(fun _=>True) x/\LR (RC false) x.g cs:=by
 obtain⟨D,h⟩:=dT Tryz.underlying201 h;obtain⟨c0,d0,rfl,_,h0,c1,f,rfl,_,h1,c2,i,rfl,_,h2,e⟩:=h;subst e;obtain⟨a,b⟩:=eE (by kernel_rfl) h0;obtain⟨a1,c⟩:=eE (by kernel_rfl) h1;obtain⟨a2,d⟩:=Gq (by kernel_rfl) h2;exact⟨⟨a,a1,a2⟩,trivial,(b.append (c.append (d.append .nil)))⟩
theorem dV2 {D:Nat} {cs:aA AV} (h:iN Tryz.prog D 153 cs):∃x:YC,(fun _=>True) x/\LR (RC false) x.g cs:=by
 obtain⟨D,h⟩:=dT Tryz.underlying153 h;obtain⟨c0,d0,rfl,_,h0,c1,d,rfl,_,h1,e⟩:=h;subst e;obtain⟨a,b⟩:=eE (by kernel_rfl) h0;obtain⟨a1,c⟩:=eE (by kernel_rfl) h1;exact⟨⟨a,a1⟩,trivial,(b.append (c.append .nil))⟩
theorem y96 {D:Nat} {cs:aA AV} (h:iN Tryz.prog D 96 cs):∃x:YA,(fun _=>True) x/\LR (RC false) x.g cs:=by
 obtain⟨D,h⟩:=dT Tryz.underlying96 h;obtain⟨c0,d0,rfl,_,h0,c1,d,rfl,_,h1,e⟩:=h;subst e;obtain⟨a,b⟩:=eE (by kernel_rfl) h0;obtain⟨a1,c⟩:=eE (by kernel_rfl) h1;exact⟨⟨a,a1⟩,trivial,(b.append (c.append .nil))⟩
theorem tF1 {D:Nat} {cs:aA AV} (h:iN Tryz.prog D 163 cs):∃x:YH,(fun _=>True) x/\LR (RC false) x.g cs:=by
 obtain⟨D,h⟩:=dT Tryz.underlying163 h;obtain⟨c0,d0,rfl,_,h0,c1,f,rfl,_,h1,c2,i,rfl,_,h2,e⟩:=h;subst e;obtain⟨a,b⟩:=eE (by kernel_rfl) h0;obtain⟨a1,c⟩:=eE (by kernel_rfl) h1;obtain⟨a2,d⟩:=eE (by kernel_rfl) h2;exact⟨⟨a,a1,a2⟩,trivial,(b.append (c.append (d.append .nil)))⟩
theorem dW2 {D:Nat} {cs:aA AV} (h:iN Tryz.prog D 168 cs):∃x:YB,(fun _=>True) x/\LR (RC false) x.g cs:=by
 obtain⟨D,h⟩:=dT Tryz.underlying168 h;obtain⟨c0,d0,rfl,_,h0,c1,i,rfl,_,h1,c2,j,rfl,_,h2,e⟩:=h;subst e;obtain⟨a,f,b⟩:=tF1 h0;obtain⟨a1,c⟩:=Gq (by kernel_rfl) h1;obtain⟨a2,d⟩:=eE (by kernel_rfl) h2;exact⟨⟨a,a1,a2⟩,trivial,(b.append (c.append (d.append .nil)))⟩
theorem dX2 {D:Nat} {cs:aA AV} (h:iN Tryz.prog D 172 cs):∃x:YD,(fun _=>True) x/\LR (RC false) x.g cs:=by
 obtain⟨D,h⟩:=dT Tryz.underlying172 h;obtain⟨c0,d0,rfl,_,h0,c1,i,rfl,_,h1,c2,j,rfl,_,h2,e⟩:=h;subst e;obtain⟨a,f,b⟩:=tF1 h0;obtain⟨a1,c⟩:=eE (by kernel_rfl) h1;obtain⟨a2,d⟩:=Gq (by kernel_rfl) h2;exact⟨⟨a,a1,a2⟩,trivial,(b.append (c.append (d.append .nil)))⟩
theorem dY2 {D:Nat} {cs:aA AV} (h:iN Tryz.prog D 103 cs):∃x:YY,(fun x=>x.b) x/\LR (RC false) x.g cs:=by
 obtain⟨D,h⟩:=dT Tryz.underlying103 h;obtain⟨c0,d0,rfl,_,h0,c1,i,rfl,_,h1,e⟩:=h;subst e;obtain⟨a,c,d⟩:=Yx (by kernel_rfl) h0;obtain⟨a1,f⟩:=eE (by kernel_rfl) h1;exact⟨⟨a,a1⟩,⟨mH c⟩,(d.append (f.append .nil))⟩
theorem dZ2 {D:Nat} {cs:aA AV} (h:iN Tryz.prog D 101 cs):∃x:YE,(fun x=>x.b) x/\LR (RC false) x.g cs:=by
 obtain⟨D,h⟩:=dT Tryz.underlying101 h;obtain⟨c0,d0,rfl,_,h0,c1,J,rfl,_,h1,c2,K,rfl,_,h2,c3,L,rfl,_,n,c4,M,rfl,_,o,c5,N,rfl,_,p,c6,O,rfl,_,q,c7,P,rfl,_,r,c8,R,rfl,_,s,c9,S,rfl,_,t,c10,l,rfl,_,d,e⟩:=h;subst e;obtain⟨i,H,u⟩:=y39 h0;obtain⟨a1,v⟩:=eE (by kernel_rfl) h1;obtain⟨a2,b2,w⟩:=y96 h2;obtain⟨a3,⟨b3,c3⟩,y⟩:=Jp (B:=fun _=>True) (c:=YB.g) (m:=5) (by kernel_rfl) (by kernel_rfl) (fun _ _ h=>dW2 h) (fun _=>rfl) n;obtain⟨a4,⟨j,c4⟩,z⟩:=Jp (B:=fun _=>True) (c:=YD.g) (m:=5) (by kernel_rfl) (by kernel_rfl) (fun _ _ h=>dX2 h) (fun _=>rfl) o;obtain⟨a5,A⟩:=eE (by kernel_rfl) p;obtain⟨a6,C⟩:=eE (by kernel_rfl) q;obtain⟨a7,E⟩:=eE (by kernel_rfl) r;obtain⟨a8,⟨k,c8⟩,F⟩:=Jp (B:=fun x=>x.b) (c:=YY.g) (m:=2) (by kernel_rfl) (by kernel_rfl) (fun _ _ h=>dY2 h) (fun _=>rfl) s;obtain⟨a9,G⟩:=eE (by kernel_rfl) t;obtain⟨a,f⟩:=eE (by kernel_rfl) d;exact⟨⟨i,a1,a2,a3,a4,a5,a6,a7,a8,a9,a⟩,⟨mH b3,mH j,mH k,c8⟩,(u.append (v.append (w.append (y.append (z.append (A.append (C.append (E.append (F.append (G.append (f.append .nil)))))))))))⟩
theorem eA2 {D:Nat} {cs:aA AV} (h:iN Tryz.prog D 294 cs):∃x:YU,(fun _=>True) x/\LR (RC false) x.g cs:=by
 obtain⟨D,h⟩:=dT Tryz.underlying294 h;obtain⟨c0,d0,rfl,_,h0,c1,j,rfl,_,h1,c2,k,rfl,_,h2,c3,l,rfl,_,b,e⟩:=h;subst e;obtain⟨a,c⟩:=eE (by kernel_rfl) h0;obtain⟨a1,d⟩:=eE (by kernel_rfl) h1;obtain⟨a2,f⟩:=eE (by kernel_rfl) h2;obtain⟨a3,i⟩:=eE (by kernel_rfl) b;exact⟨⟨a,a1,a2,a3⟩,trivial,(c.append (d.append (f.append (i.append .nil))))⟩
theorem y72 {D:Nat} {cs:aA AV} (h:iN Tryz.prog D 72 cs):∃x:YO,(fun x=>x.b) x/\LR (RC false) x.g cs:=by
 obtain⟨D,h⟩:=dT Tryz.underlying72 h;obtain⟨c0,d0,rfl,_,h0,c1,j,rfl,_,h1,e⟩:=h;subst e;obtain⟨a,⟨d,c0⟩,f⟩:=Jp (B:=fun x=>x.b) (c:=YE.g) (m:=13) (by kernel_rfl) (by kernel_rfl) (fun _ _ h=>dZ2 h) (fun _=>rfl) h0;obtain⟨a1,⟨b1,c1⟩,i⟩:=Jp (B:=fun _=>True) (c:=YU.g) (m:=4) (by kernel_rfl) (by kernel_rfl) (fun _ _ h=>eA2 h) (fun _=>rfl) h1;exact⟨⟨a,a1⟩,⟨mH d,c0,mH b1⟩,(f.append (i.append .nil))⟩
theorem y67 {D:Nat} {cs:aA AV} (h:iN Tryz.prog D 67 cs):∃x:YW,(fun x=>x.b) x/\LR (RC false) x.g cs:=by
 obtain⟨D,h⟩:=dT Tryz.underlying67 h;obtain⟨c0,d0,rfl,_,h0,c1,j,rfl,_,h1,e⟩:=h;subst e;obtain⟨a,⟨d,c0⟩,f⟩:=Jp (B:=fun _=>True) (c:=YC.g) (m:=2) (by kernel_rfl) (by kernel_rfl) (fun _ _ h=>dV2 h) (fun _=>rfl) h0;obtain⟨a1,⟨b1,c1⟩,i⟩:=Jp (B:=fun x=>x.b) (c:=YO.g) (m:=2) (by kernel_rfl) (by kernel_rfl) (fun _ _ h=>y72 h) (fun _=>rfl) h1;exact⟨⟨a,a1⟩,⟨mH d,mH b1,c1⟩,(f.append (i.append .nil))⟩
theorem y63 {D:Nat} {cs:aA AV} (h:iN Tryz.prog D 63 cs):∃x:YM,(fun x=>x.b) x/\LR (RC false) x.g cs:=by
 obtain⟨D,h⟩:=dT Tryz.underlying63 h;obtain⟨c0,d0,rfl,_,h0,c1,X,rfl,_,h1,c2,Y,rfl,_,h2,c3,Z,rfl,_,C,c4,d4,rfl,_,E,c5,d5,rfl,_,F,c6,d6,rfl,_,G,c7,d7,rfl,_,H,c8,d8,rfl,_,J,c9,d9,rfl,_,K,c10,w,rfl,_,n,c11,y,rfl,_,o,c12,z,rfl,_,p,c13,A,rfl,_,q,e⟩:=h;subst e;obtain⟨v,W,L⟩:=y39 h0;obtain⟨a1,b1,M⟩:=y59 h1;obtain⟨a2,N⟩:=eE (by kernel_rfl) h2;obtain⟨a3,O⟩:=eE (by kernel_rfl) C;obtain⟨a4,P⟩:=Gq (by kernel_rfl) E;obtain⟨a5,R⟩:=eE (by kernel_rfl) F;obtain⟨a6,S⟩:=eE (by kernel_rfl) G;obtain⟨a7,T⟩:=eE (by kernel_rfl) H;obtain⟨a8,U⟩:=eE (by kernel_rfl) J;obtain⟨a9,V⟩:=eE (by kernel_rfl) K;obtain⟨a,r⟩:=eE (by kernel_rfl) n;obtain⟨d,j,s⟩:=Yx (by kernel_rfl) o;obtain⟨f,⟨k,c12⟩,t⟩:=Jp (B:=fun _=>True) (c:=YT.g) (m:=3) (by kernel_rfl) (by kernel_rfl) (fun _ _ h=>dU2 h) (fun _=>rfl) p;obtain⟨i,⟨l,c13⟩,u⟩:=Jp (B:=fun x=>x.b) (c:=YW.g) (m:=2) (by kernel_rfl) (by kernel_rfl) (fun _ _ h=>y67 h) (fun _=>rfl) q;exact⟨⟨v,a1,a2,a3,a4,a5,a6,a7,a8,a9,a,d,f,i⟩,⟨mH j,mH k,mH l,c13⟩,(L.append (M.append (N.append (O.append (P.append (R.append (S.append (T.append (U.append (V.append (r.append (s.append (t.append (u.append .nil))))))))))))))⟩
theorem eB2 {D:Nat} {cs:aA AV} (h:iN Tryz.prog D 187 cs):∃x:YN,(fun _=>True) x/\LR (RC false) x.g cs:=by
 obtain⟨D,h⟩:=dT Tryz.underlying187 h;obtain⟨c0,d0,rfl,_,h0,c1,k,rfl,_,h1,c2,l,rfl,_,h2,c3,m,rfl,_,b,e⟩:=h;subst e;obtain⟨a,j,c⟩:=y39 h0;obtain⟨a1,d⟩:=eE (by kernel_rfl) h1;obtain⟨a2,b2,f⟩:=y39 h2;obtain⟨a3,b3,i⟩:=y39 b;exact⟨⟨a,a1,a2,a3⟩,trivial,(c.append (d.append (f.append (i.append .nil))))⟩
theorem y27 {D:Nat} {cs:aA AV} (h:iN Tryz.prog D 27 cs):∃x:Y0,(fun x=>x.b) x/\LR (RC false) x.g cs:=by
 obtain⟨D,h⟩:=dT Tryz.underlying27 h;obtain⟨c0,d0,rfl,_,h0,c1,t,rfl,_,h1,c2,u,rfl,_,h2,c3,v,rfl,_,j,c4,w,rfl,_,k,c5,y,rfl,_,l,e⟩:=h;subst e;obtain⟨a,d,n⟩:=Yx (by kernel_rfl) h0;obtain⟨a1,o⟩:=Gq (by kernel_rfl) h1;obtain⟨a2,⟨b2,c2⟩,p⟩:=Jp (B:=fun x=>x.b) (c:=YJ.g) (m:=6) (by kernel_rfl) (by kernel_rfl) (fun _ _ h=>y56 h) (fun _=>rfl) h2;obtain⟨a3,⟨b3,c3⟩,q⟩:=Jp (B:=fun x=>x.b) (c:=YM.g) (m:=22) (by kernel_rfl) (by kernel_rfl) (fun _ _ h=>y63 h) (fun _=>rfl) j;obtain⟨a4,⟨f,c4⟩,r⟩:=Jp (B:=fun _=>True) (c:=YN.g) (m:=7) (by kernel_rfl) (by kernel_rfl) (fun _ _ h=>eB2 h) (fun _=>rfl) k;obtain⟨a5,⟨i,c5⟩,s⟩:=Jp (B:=fun _=>True) (c:=YZ.g) (m:=2) (by kernel_rfl) (by kernel_rfl) (fun _ _ h=>y39 h) (fun _=>rfl) l;exact⟨⟨a,a1,a2,a3,a4,a5⟩,⟨mH d,mH b2,c2,mH b3,c3,mH f,mH i⟩,(n.append (o.append (p.append (q.append (r.append (s.append .nil))))))⟩
theorem y51 {D:Nat} {cs:aA AV} (h:iN Tryz.prog D 51 cs):∃x:bZ,(fun _=>True) x/\LR (RC false) x.g cs:=by
 obtain⟨D,h⟩:=dT Tryz.underlying51 h;obtain⟨c0,d0,rfl,_,h0,c1,d,rfl,_,h1,e⟩:=h;subst e;obtain⟨a,b⟩:=eE (by kernel_rfl) h0;obtain⟨a1,c⟩:=eE (by kernel_rfl) h1;exact⟨⟨a,a1⟩,trivial,(b.append (c.append .nil))⟩
end Go.P
