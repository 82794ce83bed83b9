import Derived.Test.YtcbmkpbljlaghaaGreatPlB
import Derived.Test.YtcbmkpbljlaghaaGreatTb
import Derived.Test.YtcbmkpbljlaghaaGreatRows
import Derived.KernelRfl
/- A text of the proof. -/
set_option linter.all false
set_option maxRecDepth 100000
set_option maxHeartbeats 2000000
namespace Go.P
open Go.Sim (iB jB lJ IFn jA AV sL oY qO lV runP exec Bh)
open Go.Proofs
noncomputable section
theorem Rr {f e:Nat} (h:cI1 f e=true):(f=186/\e=5)\/(f=187/\e=5)\/(f=188/\e=2):=by
 unfold cI1 at h;simp only[wL2,iN]at h;obtain⟨h1,h3⟩:=h;have h3:=xB2 h3;simp at h1;rcases h1 with rfl|rfl|rfl<;>simp[h3]
theorem Rs {M:Mm} (b:∀e∈M,e.1=7):∀f xs v,kA f=false->Yr false f xs=some v->oH (TM M) f xs v:=by
 intro f xs v _ h;have a:∀f,f≠7->∀ys,(TM M).memo f ys=none:=fun f hf ys=>oY (fun e he h=>hf ((h.symm.trans (b e he)))) ys;unfold Yr at h;split at h;rename_i e rows;cases hc:(cI1 f e&&Nat.ble rows.length 1073741824)with
 |false=>rw[hc]at h;cases h
 |true=>
  rw[hc]at h;cases h;simp only[wL2]at hc;obtain⟨h1,h2⟩:=hc;have h2:=wV2 h2;rcases Rr h1 with⟨rfl,rfl⟩|⟨rfl,rfl⟩|⟨rfl,rfl⟩
  exact Cq (show TM M 186=some (iA 168 5 40 [(.int .i64 0),(.int .i64 0),(.int .i64 0),(.bool false),(.int .i64 0)])by kernel_rfl) (a _ (by decide)) h2;exact Cq (show TM M 187=some (iA 172 5 40 [(.int .i64 0),(.int .i64 0),(.int .i64 0),(.int .i64 0),(.bool false)])by kernel_rfl) (a _ (by decide)) h2;exact Cq (show TM M 188=some (iA 103 2 24 [(.string ⟨#[]⟩),(.int .i64 0)])by kernel_rfl) (a _ (by decide)) h2
 cases h;cases h
theorem eK2 [Inhabited Rc] (M:Mm):Ej (TM M) kA Iq (rC clN):=Wt (cl:=clN) fun f p h=>by
 unfold clN at h
 cases h
theorem gG1 (M:Mm) (c:∀e∈M,e.1=7):∀k,Ej (TM M) kA Iq (@yT ⟨⟨Jk k⟩⟩).run
 |0=>Tt (@eK2 ⟨⟨Jk 0⟩⟩ M) fun f xs h n v h' n' C s lim ys _ _ hk=>by
  obtain⟨_,_,a,b,_,_,hg,_⟩:=yO hk
  cases hg
 |k+1=>Tt (@eK2 ⟨⟨Jk 0⟩⟩ M)<|by
  obtain⟨d,g⟩:=bW1 (P:=Iq) (Rs c) (gG1 M c k) (vE1 c) 3
  refine Wq (fn:=sA1) d g (f0:=170) (by kernel_rfl) (by rw[Ms];kernel_rfl) fun f xs h n v h' n' hk=>?_
  obtain⟨rfl,rfl,a,b,rfl,rfl,hg,he⟩:=yO hk
  cases he
  refine⟨rfl,rfl,?_⟩
  have hg:De (Jk k) a.1 a.2.1 a.2.2.1 a.2.2.2=some b:=hg
  exact(@sZ1 ⟨⟨Jk k⟩⟩ false 0 a.1 a.2.1 a.2.2.1 a.2.2.2).trans ((congrArg (Option.map _) hg).trans rfl)
theorem eL2 (M:Mm) (a:∀e∈M,e.1=7:=by first|exact Rq|(intro _ h;cases h)):Ej (TM M) kA Iq yT.run:=gG1 M a 64
theorem Rt:lV Tryz.prog 11 [.agg (Tv 12 cJ1.g)] (.v (.bool true)):=by
 refine cG1 pP2 gF1 (xs:=[.agg cJ1.g]) ?_ (iX1 (by kernel_rfl)) (by kernel_rfl);refine oU1 (NW:=yT) (Rs (M:=[]) (fun _ h=>by cases h)) (eL2 []) (vE1 (M:=[]) (fun _ h=>by cases h)) 26 11 _ _ ?_;rw[show Od (Yr false) kA yT Iq 26 11 _=_ from Yb 0 cJ1,show Dc cJ1=some true by kernel_rfl];rfl
abbrev M2:Mm:=[(11,[.agg (Tv 12 cJ1.g)],.v (.bool true))]
abbrev T2:jA:=⟨fun f=>(tl2[f]?).join,sL M2⟩
theorem pQ2:iB Tryz.prog T2:=jB.tab (M:=M2) pO2 ⟨Rt,trivial⟩
theorem Yl:runP T2 (exec T2 300) 7 ix7 []=some (.v (.bool true)):=by kernel_rfl
theorem Nz:lV Tryz.prog 7 [] (.v (.bool true)):=Bh (fn:=ix7) pQ2 gF1 (by kernel_rfl) rfl rfl Yl
theorem vF1:iB Tryz.prog TBL:=jB.tab (M:=MK) eJ2 ⟨Nz,trivial⟩
theorem oB1:∀f xs v,kA f=false->Yr true f xs=some v->oH TBL f xs v:=by
 intro f xs v hf h;by_cases a:xs=[]/\f=7;obtain⟨rfl,rfl⟩:=a;cases h;exact cH1 (fn:=ix7) (by kernel_rfl) rfl rfl rfl;refine Rs Rq f xs v hf ?_;unfold Yr at h ⊢;split at h;exact h;cases hc:Nat.beq f 7 with
 |false=>rw[hc]at h;cases h
 |true=>exact(a ⟨rfl,xB2 hc⟩).elim
 cases h
end
end Go.P
namespace Go.P
open Go.Sim Go.Proofs
theorem y39 {D:Nat} {cs:aA AV} (h:lI Tryz.prog D 39 cs):∃x:YZ,(fun _=>True) x/\LR (RC false) x.g cs:=by
 obtain⟨D,h⟩:=fM Tryz.underlying39 h;obtain⟨c0,d0,rfl,_,h0,c1,d,rfl,_,h1,e⟩:=h;subst e;obtain⟨a,b⟩:=gI (by kernel_rfl) h0;obtain⟨a1,c⟩:=gI (by kernel_rfl) h1;exact⟨⟨a,a1⟩,trivial,(b.append (c.append .nil))⟩
theorem y53 {D:Nat} {cs:aA AV} (h:lI Tryz.prog D 53 cs):∃x:YL,(fun _=>True) x/\LR (RC false) x.g cs:=by
 obtain⟨D,h⟩:=fM Tryz.underlying53 h;obtain⟨c0,d0,rfl,_,h0,c1,d,rfl,_,h1,e⟩:=h;subst e;obtain⟨a,b⟩:=gI (by kernel_rfl) h0;obtain⟨a1,c⟩:=gI (by kernel_rfl) h1;exact⟨⟨a,a1⟩,trivial,(b.append (c.append .nil))⟩
theorem pR2 {D:Nat} {cs:aA AV} (h:lI Tryz.prog D 105 cs):∃x:YF,(fun _=>True) x/\LR (RC false) x.g cs:=by
 obtain⟨D,h⟩:=fM Tryz.underlying105 h;obtain⟨c0,d0,rfl,_,h0,c1,f,rfl,_,h1,e⟩:=h;subst e;obtain⟨a,d,b⟩:=y39 h0;obtain⟨a1,c⟩:=gI (by kernel_rfl) h1;exact⟨⟨a,a1⟩,trivial,(b.append (c.append .nil))⟩
theorem y56 {D:Nat} {cs:aA AV} (h:lI Tryz.prog D 56 cs):∃x:YJ,(fun x=>x.b) x/\LR (RC false) x.g cs:=by
 obtain⟨D,h⟩:=fM Tryz.underlying56 h;obtain⟨c0,d0,rfl,_,h0,c1,l,rfl,_,h1,c2,n,rfl,_,h2,c3,o,rfl,_,h3,e⟩:=h;subst e;obtain⟨a,k,d⟩:=y39 h0;obtain⟨a1,b1,f⟩:=iU1 (by kernel_rfl) h1;obtain⟨a2,b2,i⟩:=y53 h2;obtain⟨a3,⟨b3,c3⟩,j⟩:=Tu (B:=fun _=>True) (c:=YF.g) (m:=3) (by kernel_rfl) (by kernel_rfl) (fun _ _ h=>pR2 h) (fun _=>rfl) h3;exact⟨⟨a,a1,a2,a3⟩,⟨pX b1,pX b3⟩,(d.append (f.append (i.append (j.append .nil))))⟩
theorem y57 {D:Nat} {cs:aA AV} (h:lI Tryz.prog D 57 cs):∃x:Y6,True/\LR (RC false) x.g cs:=by
 obtain⟨D,rows,rfl,hl,h⟩:=fY2 (n:=6) (e:=3) (by kernel_rfl) h;obtain⟨b,r1,r2,r3,r4,r5,rfl⟩:=wQ1 hl;obtain⟨a,h0⟩:=gI (by kernel_rfl) (h b (by simp)).2;obtain⟨a1,h1⟩:=gI (by kernel_rfl) (h r1 (by simp)).2;obtain⟨a2,h2⟩:=gI (by kernel_rfl) (h r2 (by simp)).2;obtain⟨a3,h3⟩:=gI (by kernel_rfl) (h r3 (by simp)).2;obtain⟨a4,h4⟩:=gI (by kernel_rfl) (h r4 (by simp)).2;obtain⟨a5,h5⟩:=gI (by kernel_rfl) (h r5 (by simp)).2;exact⟨⟨a,a1,a2,a3,a4,a5⟩,trivial,(h0.append (h1.append (h2.append (h3.append (h4.append (h5.append .nil))))))⟩
theorem y59 {D:Nat} {cs:aA AV} (h:lI Tryz.prog D 59 cs):∃x:YX,(fun _=>True) x/\LR (RC false) x.g cs:=by
 obtain⟨D,h⟩:=fM Tryz.underlying59 h;obtain⟨c0,d0,rfl,_,h0,c1,f,rfl,_,h1,c2,i,rfl,_,h2,e⟩:=h;subst e;obtain⟨a,b⟩:=gI (by kernel_rfl) h0;obtain⟨a1,c⟩:=gI (by kernel_rfl) h1;obtain⟨a2,b2,d⟩:=y57 h2;exact⟨⟨a,a1,a2⟩,trivial,(b.append (c.append (d.append .nil)))⟩
theorem pS2 {D:Nat} {cs:aA AV} (h:lI Tryz.prog D 201 cs):∃x:YT,(fun _=>True) x/\LR (RC false) x.g cs:=by
 obtain⟨D,h⟩:=fM Tryz.underlying201 h;obtain⟨c0,d0,rfl,_,h0,c1,f,rfl,_,h1,c2,i,rfl,_,h2,e⟩:=h;subst e;obtain⟨a,b⟩:=gI (by kernel_rfl) h0;obtain⟨a1,c⟩:=gI (by kernel_rfl) h1;obtain⟨a2,d⟩:=My (by kernel_rfl) h2;exact⟨⟨a,a1,a2⟩,trivial,(b.append (c.append (d.append .nil)))⟩
theorem pT2 {D:Nat} {cs:aA AV} (h:lI Tryz.prog D 153 cs):∃x:YC,(fun _=>True) x/\LR (RC false) x.g cs:=by
 obtain⟨D,h⟩:=fM Tryz.underlying153 h;obtain⟨c0,d0,rfl,_,h0,c1,d,rfl,_,h1,e⟩:=h;subst e;obtain⟨a,b⟩:=gI (by kernel_rfl) h0;obtain⟨a1,c⟩:=gI (by kernel_rfl) h1;exact⟨⟨a,a1⟩,trivial,(b.append (c.append .nil))⟩
theorem y96 {D:Nat} {cs:aA AV} (h:lI Tryz.prog D 96 cs):∃x:YA,(fun _=>True) x/\LR (RC false) x.g cs:=by
 obtain⟨D,h⟩:=fM Tryz.underlying96 h;obtain⟨c0,d0,rfl,_,h0,c1,d,rfl,_,h1,e⟩:=h;subst e;obtain⟨a,b⟩:=gI (by kernel_rfl) h0;obtain⟨a1,c⟩:=gI (by kernel_rfl) h1;exact⟨⟨a,a1⟩,trivial,(b.append (c.append .nil))⟩
theorem eM2 {D:Nat} {cs:aA AV} (h:lI Tryz.prog D 163 cs):∃x:YH,(fun _=>True) x/\LR (RC false) x.g cs:=by
 obtain⟨D,h⟩:=fM Tryz.underlying163 h;obtain⟨c0,d0,rfl,_,h0,c1,f,rfl,_,h1,c2,i,rfl,_,h2,e⟩:=h;subst e;obtain⟨a,b⟩:=gI (by kernel_rfl) h0;obtain⟨a1,c⟩:=gI (by kernel_rfl) h1;obtain⟨a2,d⟩:=gI (by kernel_rfl) h2;exact⟨⟨a,a1,a2⟩,trivial,(b.append (c.append (d.append .nil)))⟩
theorem pU2 {D:Nat} {cs:aA AV} (h:lI Tryz.prog D 168 cs):∃x:YB,(fun _=>True) x/\LR (RC false) x.g cs:=by
 obtain⟨D,h⟩:=fM Tryz.underlying168 h;obtain⟨c0,d0,rfl,_,h0,c1,i,rfl,_,h1,c2,j,rfl,_,h2,e⟩:=h;subst e;obtain⟨a,f,b⟩:=eM2 h0;obtain⟨a1,c⟩:=My (by kernel_rfl) h1;obtain⟨a2,d⟩:=gI (by kernel_rfl) h2;exact⟨⟨a,a1,a2⟩,trivial,(b.append (c.append (d.append .nil)))⟩
theorem pV2 {D:Nat} {cs:aA AV} (h:lI Tryz.prog D 172 cs):∃x:YD,(fun _=>True) x/\LR (RC false) x.g cs:=by
 obtain⟨D,h⟩:=fM Tryz.underlying172 h;obtain⟨c0,d0,rfl,_,h0,c1,i,rfl,_,h1,c2,j,rfl,_,h2,e⟩:=h;subst e;obtain⟨a,f,b⟩:=eM2 h0;obtain⟨a1,c⟩:=gI (by kernel_rfl) h1;obtain⟨a2,d⟩:=My (by kernel_rfl) h2;exact⟨⟨a,a1,a2⟩,trivial,(b.append (c.append (d.append .nil)))⟩
theorem pW2 {D:Nat} {cs:aA AV} (h:lI Tryz.prog D 103 cs):∃x:YY,(fun x=>x.b) x/\LR (RC false) x.g cs:=by
 obtain⟨D,h⟩:=fM Tryz.underlying103 h;obtain⟨c0,d0,rfl,_,h0,c1,i,rfl,_,h1,e⟩:=h;subst e;obtain⟨a,c,d⟩:=iU1 (by kernel_rfl) h0;obtain⟨a1,f⟩:=gI (by kernel_rfl) h1;exact⟨⟨a,a1⟩,⟨pX c⟩,(d.append (f.append .nil))⟩
theorem pX2 {D:Nat} {cs:aA AV} (h:lI Tryz.prog D 101 cs):∃x:YE,(fun x=>x.b) x/\LR (RC false) x.g cs:=by
 obtain⟨D,h⟩:=fM Tryz.underlying101 h;obtain⟨c0,d0,rfl,_,h0,c1,F,rfl,_,h1,c2,G,rfl,_,h2,c3,H,rfl,_,h3,c4,J,rfl,_,h4,c5,K,rfl,_,h5,c6,L,rfl,_,n,c7,M,rfl,_,o,c8,N,rfl,_,p,c9,O,rfl,_,q,c10,l,rfl,_,d,e⟩:=h;subst e;obtain⟨i,E,r⟩:=y39 h0;obtain⟨a1,s⟩:=gI (by kernel_rfl) h1;obtain⟨a2,b2,t⟩:=y96 h2;obtain⟨a3,⟨b3,c3⟩,u⟩:=Tu (B:=fun _=>True) (c:=YB.g) (m:=5) (by kernel_rfl) (by kernel_rfl) (fun _ _ h=>pU2 h) (fun _=>rfl) h3;obtain⟨a4,⟨j,c4⟩,v⟩:=Tu (B:=fun _=>True) (c:=YD.g) (m:=5) (by kernel_rfl) (by kernel_rfl) (fun _ _ h=>pV2 h) (fun _=>rfl) h4;obtain⟨a5,w⟩:=gI (by kernel_rfl) h5;obtain⟨a6,y⟩:=gI (by kernel_rfl) n;obtain⟨a7,z⟩:=gI (by kernel_rfl) o;obtain⟨a8,⟨k,c8⟩,A⟩:=Tu (B:=fun x=>x.b) (c:=YY.g) (m:=2) (by kernel_rfl) (by kernel_rfl) (fun _ _ h=>pW2 h) (fun _=>rfl) p;obtain⟨a9,C⟩:=gI (by kernel_rfl) q;obtain⟨a,f⟩:=gI (by kernel_rfl) d;exact⟨⟨i,a1,a2,a3,a4,a5,a6,a7,a8,a9,a⟩,⟨pX b3,pX j,pX k,c8⟩,(r.append (s.append (t.append (u.append (v.append (w.append (y.append (z.append (A.append (C.append (f.append .nil)))))))))))⟩
theorem pY2 {D:Nat} {cs:aA AV} (h:lI Tryz.prog D 294 cs):∃x:YU,(fun _=>True) x/\LR (RC false) x.g cs:=by
 obtain⟨D,h⟩:=fM Tryz.underlying294 h;obtain⟨c0,d0,rfl,_,h0,c1,i,rfl,_,h1,c2,j,rfl,_,h2,c3,k,rfl,_,h3,e⟩:=h;subst e;obtain⟨a,b⟩:=gI (by kernel_rfl) h0;obtain⟨a1,c⟩:=gI (by kernel_rfl) h1;obtain⟨a2,d⟩:=gI (by kernel_rfl) h2;obtain⟨a3,f⟩:=gI (by kernel_rfl) h3;exact⟨⟨a,a1,a2,a3⟩,trivial,(b.append (c.append (d.append (f.append .nil))))⟩
theorem y72 {D:Nat} {cs:aA AV} (h:lI Tryz.prog D 72 cs):∃x:YO,(fun x=>x.b) x/\LR (RC false) x.g cs:=by
 obtain⟨D,h⟩:=fM Tryz.underlying72 h;obtain⟨c0,d0,rfl,_,h0,c1,j,rfl,_,h1,e⟩:=h;subst e;obtain⟨a,⟨d,c0⟩,f⟩:=Tu (B:=fun x=>x.b) (c:=YE.g) (m:=13) (by kernel_rfl) (by kernel_rfl) (fun _ _ h=>pX2 h) (fun _=>rfl) h0;obtain⟨a1,⟨b1,c1⟩,i⟩:=Tu (B:=fun _=>True) (c:=YU.g) (m:=4) (by kernel_rfl) (by kernel_rfl) (fun _ _ h=>pY2 h) (fun _=>rfl) h1;exact⟨⟨a,a1⟩,⟨pX d,c0,pX b1⟩,(f.append (i.append .nil))⟩
theorem y67 {D:Nat} {cs:aA AV} (h:lI Tryz.prog D 67 cs):∃x:YW,(fun x=>x.b) x/\LR (RC false) x.g cs:=by
 obtain⟨D,h⟩:=fM Tryz.underlying67 h;obtain⟨c0,d0,rfl,_,h0,c1,j,rfl,_,h1,e⟩:=h;subst e;obtain⟨a,⟨d,c0⟩,f⟩:=Tu (B:=fun _=>True) (c:=YC.g) (m:=2) (by kernel_rfl) (by kernel_rfl) (fun _ _ h=>pT2 h) (fun _=>rfl) h0;obtain⟨a1,⟨b1,c1⟩,i⟩:=Tu (B:=fun x=>x.b) (c:=YO.g) (m:=2) (by kernel_rfl) (by kernel_rfl) (fun _ _ h=>y72 h) (fun _=>rfl) h1;exact⟨⟨a,a1⟩,⟨pX d,pX b1,c1⟩,(f.append (i.append .nil))⟩
theorem y63 {D:Nat} {cs:aA AV} (h:lI Tryz.prog D 63 cs):∃x:YM,(fun x=>x.b) x/\LR (RC false) x.g cs:=by
 obtain⟨D,h⟩:=fM Tryz.underlying63 h;obtain⟨c0,d0,rfl,_,h0,c1,U,rfl,_,h1,c2,V,rfl,_,h2,c3,W,rfl,_,h3,c4,X,rfl,_,h4,c5,Y,rfl,_,h5,c6,Z,rfl,_,C,c7,d7,rfl,_,E,c8,d8,rfl,_,F,c9,d9,rfl,_,G,c10,w,rfl,_,n,c11,y,rfl,_,o,c12,z,rfl,_,p,c13,A,rfl,_,q,e⟩:=h;subst e;obtain⟨v,T,H⟩:=y39 h0;obtain⟨a1,b1,J⟩:=y59 h1;obtain⟨a2,K⟩:=gI (by kernel_rfl) h2;obtain⟨a3,L⟩:=gI (by kernel_rfl) h3;obtain⟨a4,M⟩:=My (by kernel_rfl) h4;obtain⟨a5,N⟩:=gI (by kernel_rfl) h5;obtain⟨a6,O⟩:=gI (by kernel_rfl) C;obtain⟨a7,P⟩:=gI (by kernel_rfl) E;obtain⟨a8,R⟩:=gI (by kernel_rfl) F;obtain⟨a9,S⟩:=gI (by kernel_rfl) G;obtain⟨a,r⟩:=gI (by kernel_rfl) n;obtain⟨d,j,s⟩:=iU1 (by kernel_rfl) o;obtain⟨f,⟨k,c12⟩,t⟩:=Tu (B:=fun _=>True) (c:=YT.g) (m:=3) (by kernel_rfl) (by kernel_rfl) (fun _ _ h=>pS2 h) (fun _=>rfl) p;obtain⟨i,⟨l,c13⟩,u⟩:=Tu (B:=fun x=>x.b) (c:=YW.g) (m:=2) (by kernel_rfl) (by kernel_rfl) (fun _ _ h=>y67 h) (fun _=>rfl) q;exact⟨⟨v,a1,a2,a3,a4,a5,a6,a7,a8,a9,a,d,f,i⟩,⟨pX j,pX k,pX l,c13⟩,(H.append (J.append (K.append (L.append (M.append (N.append (O.append (P.append (R.append (S.append (r.append (s.append (t.append (u.append .nil))))))))))))))⟩
theorem pZ2 {D:Nat} {cs:aA AV} (h:lI Tryz.prog D 187 cs):∃x:YN,(fun _=>True) x/\LR (RC false) x.g cs:=by
 obtain⟨D,h⟩:=fM Tryz.underlying187 h;obtain⟨c0,d0,rfl,_,h0,c1,j,rfl,_,h1,c2,k,rfl,_,h2,c3,l,rfl,_,h3,e⟩:=h;subst e;obtain⟨a,i,b⟩:=y39 h0;obtain⟨a1,c⟩:=gI (by kernel_rfl) h1;obtain⟨a2,b2,d⟩:=y39 h2;obtain⟨a3,b3,f⟩:=y39 h3;exact⟨⟨a,a1,a2,a3⟩,trivial,(b.append (c.append (d.append (f.append .nil))))⟩
theorem y27 {D:Nat} {cs:aA AV} (h:lI Tryz.prog D 27 cs):∃x:Y0,(fun x=>x.b) x/\LR (RC false) x.g cs:=by
 obtain⟨D,h⟩:=fM Tryz.underlying27 h;obtain⟨c0,d0,rfl,_,h0,c1,q,rfl,_,h1,c2,r,rfl,_,h2,c3,s,rfl,_,h3,c4,t,rfl,_,h4,c5,u,rfl,_,h5,e⟩:=h;subst e;obtain⟨a,d,j⟩:=iU1 (by kernel_rfl) h0;obtain⟨a1,k⟩:=My (by kernel_rfl) h1;obtain⟨a2,⟨b2,c2⟩,l⟩:=Tu (B:=fun x=>x.b) (c:=YJ.g) (m:=6) (by kernel_rfl) (by kernel_rfl) (fun _ _ h=>y56 h) (fun _=>rfl) h2;obtain⟨a3,⟨b3,c3⟩,n⟩:=Tu (B:=fun x=>x.b) (c:=YM.g) (m:=22) (by kernel_rfl) (by kernel_rfl) (fun _ _ h=>y63 h) (fun _=>rfl) h3;obtain⟨a4,⟨f,c4⟩,o⟩:=Tu (B:=fun _=>True) (c:=YN.g) (m:=7) (by kernel_rfl) (by kernel_rfl) (fun _ _ h=>pZ2 h) (fun _=>rfl) h4;obtain⟨a5,⟨i,c5⟩,p⟩:=Tu (B:=fun _=>True) (c:=YZ.g) (m:=2) (by kernel_rfl) (by kernel_rfl) (fun _ _ h=>y39 h) (fun _=>rfl) h5;exact⟨⟨a,a1,a2,a3,a4,a5⟩,⟨pX d,pX b2,c2,pX b3,c3,pX f,pX i⟩,(j.append (k.append (l.append (n.append (o.append (p.append .nil))))))⟩
end Go.P
