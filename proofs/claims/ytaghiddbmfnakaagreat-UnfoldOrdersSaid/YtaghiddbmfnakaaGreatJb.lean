import Derived.Test.YtaghiddbmfnakaaGreatPl
import Derived.Test.YtaghiddbmfnakaaGreatTb
import Derived.Test.YtaghiddbmfnakaaGreatRows
import Derived.KernelRfl
/- A text of the proof. -/
set_option linter.all false
set_option maxRecDepth 100000
set_option maxHeartbeats 2000000
namespace Go.P
open Go.Sim (fM gK jV IFn gL AV pL mH nW jL runP exec wW)
open Go.Proofs
noncomputable section
theorem Jy {f e:Nat} (h:Tb f e=true):(f=163/\e=5)\/(f=164/\e=5)\/(f=165/\e=2):=by
 unfold Tb at h;simp only[iG2,gE]at h;obtain⟨h1,h3⟩:=h;have h3:=iY2 h3;simp at h1;rcases h1 with rfl|rfl|rfl<;>simp[h3]
theorem Wa {M:Mm} (b:∀e∈M,e.1=6):∀f xs v,jD f=false->Td false f xs=some v->mN (TM M) f xs v:=by
 intro f xs v _ h;have a:∀f,f≠6->∀ys,(TM M).memo f ys=none:=fun f hf ys=>mH (fun e he h=>hf ((h.symm.trans (b e he)))) ys;unfold Td at h;split at h;rename_i e rows;cases hc:(Tb f e&&Nat.ble rows.length 1073741824)with
 |false=>rw[hc]at h;cases h
 |true=>
  rw[hc]at h;cases h;simp only[iG2]at hc;obtain⟨h1,h2⟩:=hc;have h2:=jM2 h2;rcases Jy h1 with⟨rfl,rfl⟩|⟨rfl,rfl⟩|⟨rfl,rfl⟩
  exact yC (show TM M 163=some (jJ 158 5 40 [(.int .i64 0),(.int .i64 0),(.int .i64 0),(.bool false),(.int .i64 0)])by kernel_rfl) (a _ (by decide)) h2;exact yC (show TM M 164=some (jJ 162 5 40 [(.int .i64 0),(.int .i64 0),(.int .i64 0),(.int .i64 0),(.bool false)])by kernel_rfl) (a _ (by decide)) h2;exact yC (show TM M 165=some (jJ 91 2 24 [(.string ⟨#[]⟩),(.int .i64 0)])by kernel_rfl) (a _ (by decide)) h2
 cases h;cases h
theorem qZ1 (M:Mm):Yf (TM M) jD Ja Cn.run:=Oc
theorem Jz:jL Tryz.prog 8 [.agg (Lp 12 Tc.g)] (.v (.bool true)):=by
 refine Sz bQ2 Vz (xs:=[.agg Tc.g]) ?_ (Yl (by kernel_rfl)) (by kernel_rfl);refine dT1 (NW:=Cn) (Wa (M:=[]) (fun _ h=>by cases h)) (qZ1 []) (qW1 (M:=[]) (fun _ h=>by cases h)) 26 8 _ _ ?_;rw[show Od (Td false) jD Cn Ja 26 8 _=_ from ok8 0 Tc,show F8 Tc=some true by kernel_rfl];rfl
abbrev M2:Mm:=[(8,[.agg (Lp 12 Tc.g)],.v (.bool true))]
abbrev T2:gL:=⟨fun f=>(tl2[f]?).join,pL M2⟩
theorem bR2:fM Tryz.prog T2:=gK.tab (M:=M2) bP2 ⟨Jz,trivial⟩
theorem Pe:runP T2 (exec T2 300) 6 ix6 []=some (.v (.bool true)):=by kernel_rfl
theorem Gy:jL Tryz.prog 6 [] (.v (.bool true)):=wW (fn:=ix6) bR2 Vz (by kernel_rfl) rfl rfl Pe
theorem iU1:fM Tryz.prog TBL:=gK.tab (M:=MK) qY1 ⟨Gy,trivial⟩
theorem dB1:∀f xs v,jD f=false->Td true f xs=some v->mN TBL f xs v:=by
 intro f xs v hf h;by_cases a:xs=[]/\f=6;obtain⟨rfl,rfl⟩:=a;cases h;exact Ta (fn:=ix6) (by kernel_rfl) rfl rfl rfl;refine Wa Vy f xs v hf ?_;unfold Td at h ⊢;split at h;exact h;cases hc:Nat.beq f 6 with
 |false=>rw[hc]at h;cases h
 |true=>exact(a ⟨rfl,iY2 hc⟩).elim
 cases h
end
end Go.P
namespace Go.P
open Go.Sim Go.Proofs
theorem y43 {D:Nat} {cs:aA AV} (h:jE Tryz.prog D 43 cs):∃x:YZ,(fun _=>True) x/\LR (RC false) x.g cs:=by
 obtain⟨D,h⟩:=eD Tryz.underlying43 h;obtain⟨c0,d,rfl,_,h0,c1,f,rfl,_,h1,e⟩:=h;subst e;obtain⟨a,b⟩:=eW (by kernel_rfl) h0;obtain⟨a1,c⟩:=eW (by kernel_rfl) h1;exact⟨⟨a,a1⟩,trivial,(b.append (c.append .nil))⟩
theorem y45 {D:Nat} {cs:aA AV} (h:jE Tryz.prog D 45 cs):∃x:YL,(fun _=>True) x/\LR (RC false) x.g cs:=by
 obtain⟨D,h⟩:=eD Tryz.underlying45 h;obtain⟨c0,d,rfl,_,h0,c1,f,rfl,_,h1,e⟩:=h;subst e;obtain⟨a,b⟩:=eW (by kernel_rfl) h0;obtain⟨a1,c⟩:=eW (by kernel_rfl) h1;exact⟨⟨a,a1⟩,trivial,(b.append (c.append .nil))⟩
theorem y93 {D:Nat} {cs:aA AV} (h:jE Tryz.prog D 93 cs):∃x:YF,(fun _=>True) x/\LR (RC false) x.g cs:=by
 obtain⟨D,h⟩:=eD Tryz.underlying93 h;obtain⟨c0,f,rfl,_,h0,c1,i,rfl,_,h1,e⟩:=h;subst e;obtain⟨a,d,b⟩:=y43 h0;obtain⟨a1,c⟩:=eW (by kernel_rfl) h1;exact⟨⟨a,a1⟩,trivial,(b.append (c.append .nil))⟩
theorem y48 {D:Nat} {cs:aA AV} (h:jE Tryz.prog D 48 cs):∃x:YJ,(fun x=>x.b) x/\LR (RC false) x.g cs:=by
 obtain⟨D,h⟩:=eD Tryz.underlying48 h;obtain⟨c0,l,rfl,_,h0,c1,n,rfl,_,h1,c2,o,rfl,_,h2,c3,p,rfl,_,h3,e⟩:=h;subst e;obtain⟨a,k,d⟩:=y43 h0;obtain⟨a1,b1,f⟩:=Yj (by kernel_rfl) h1;obtain⟨a2,b2,i⟩:=y45 h2;obtain⟨a3,⟨b3,c3⟩,j⟩:=Lo (B:=fun _=>True) (c:=YF.g) (m:=3) (by kernel_rfl) (by kernel_rfl) (fun _ _ h=>y93 h) (fun _=>rfl) h3;exact⟨⟨a,a1,a2,a3⟩,⟨nE b1,nE b3⟩,(d.append (f.append (i.append (j.append .nil))))⟩
theorem y49 {D:Nat} {cs:aA AV} (h:jE Tryz.prog D 49 cs):∃x:Y6,True/\LR (RC false) x.g cs:=by
 obtain⟨D,rows,rfl,hl,h⟩:=sX1 (n:=6) (e:=3) (by kernel_rfl) h;obtain⟨b,r1,r2,r3,r4,r5,rfl⟩:=kD1 hl;obtain⟨a,h0⟩:=eW (by kernel_rfl) (h b (by simp)).2;obtain⟨a1,h1⟩:=eW (by kernel_rfl) (h r1 (by simp)).2;obtain⟨a2,h2⟩:=eW (by kernel_rfl) (h r2 (by simp)).2;obtain⟨a3,h3⟩:=eW (by kernel_rfl) (h r3 (by simp)).2;obtain⟨a4,h4⟩:=eW (by kernel_rfl) (h r4 (by simp)).2;obtain⟨a5,h5⟩:=eW (by kernel_rfl) (h r5 (by simp)).2;exact⟨⟨a,a1,a2,a3,a4,a5⟩,trivial,(h0.append (h1.append (h2.append (h3.append (h4.append (h5.append .nil))))))⟩
theorem y51 {D:Nat} {cs:aA AV} (h:jE Tryz.prog D 51 cs):∃x:YX,(fun _=>True) x/\LR (RC false) x.g cs:=by
 obtain⟨D,h⟩:=eD Tryz.underlying51 h;obtain⟨c0,f,rfl,_,h0,c1,i,rfl,_,h1,c2,j,rfl,_,h2,e⟩:=h;subst e;obtain⟨a,b⟩:=eW (by kernel_rfl) h0;obtain⟨a1,c⟩:=eW (by kernel_rfl) h1;obtain⟨a2,b2,d⟩:=y49 h2;exact⟨⟨a,a1,a2⟩,trivial,(b.append (c.append (d.append .nil)))⟩
theorem bS2 {D:Nat} {cs:aA AV} (h:jE Tryz.prog D 191 cs):∃x:YT,(fun _=>True) x/\LR (RC false) x.g cs:=by
 obtain⟨D,h⟩:=eD Tryz.underlying191 h;obtain⟨c0,f,rfl,_,h0,c1,i,rfl,_,h1,c2,j,rfl,_,h2,e⟩:=h;subst e;obtain⟨a,b⟩:=eW (by kernel_rfl) h0;obtain⟨a1,c⟩:=eW (by kernel_rfl) h1;obtain⟨a2,d⟩:=Gi (by kernel_rfl) h2;exact⟨⟨a,a1,a2⟩,trivial,(b.append (c.append (d.append .nil)))⟩
theorem bT2 {D:Nat} {cs:aA AV} (h:jE Tryz.prog D 141 cs):∃x:YC,(fun _=>True) x/\LR (RC false) x.g cs:=by
 obtain⟨D,h⟩:=eD Tryz.underlying141 h;obtain⟨c0,d,rfl,_,h0,c1,f,rfl,_,h1,e⟩:=h;subst e;obtain⟨a,b⟩:=eW (by kernel_rfl) h0;obtain⟨a1,c⟩:=eW (by kernel_rfl) h1;exact⟨⟨a,a1⟩,trivial,(b.append (c.append .nil))⟩
theorem y82 {D:Nat} {cs:aA AV} (h:jE Tryz.prog D 82 cs):∃x:YA,(fun _=>True) x/\LR (RC false) x.g cs:=by
 obtain⟨D,h⟩:=eD Tryz.underlying82 h;obtain⟨c0,d,rfl,_,h0,c1,f,rfl,_,h1,e⟩:=h;subst e;obtain⟨a,b⟩:=eW (by kernel_rfl) h0;obtain⟨a1,c⟩:=eW (by kernel_rfl) h1;exact⟨⟨a,a1⟩,trivial,(b.append (c.append .nil))⟩
theorem rA1 {D:Nat} {cs:aA AV} (h:jE Tryz.prog D 153 cs):∃x:YH,(fun _=>True) x/\LR (RC false) x.g cs:=by
 obtain⟨D,h⟩:=eD Tryz.underlying153 h;obtain⟨c0,f,rfl,_,h0,c1,i,rfl,_,h1,c2,j,rfl,_,h2,e⟩:=h;subst e;obtain⟨a,b⟩:=eW (by kernel_rfl) h0;obtain⟨a1,c⟩:=eW (by kernel_rfl) h1;obtain⟨a2,d⟩:=eW (by kernel_rfl) h2;exact⟨⟨a,a1,a2⟩,trivial,(b.append (c.append (d.append .nil)))⟩
theorem bU2 {D:Nat} {cs:aA AV} (h:jE Tryz.prog D 158 cs):∃x:YB,(fun _=>True) x/\LR (RC false) x.g cs:=by
 obtain⟨D,h⟩:=eD Tryz.underlying158 h;obtain⟨c0,i,rfl,_,h0,c1,j,rfl,_,h1,c2,k,rfl,_,h2,e⟩:=h;subst e;obtain⟨a,f,b⟩:=rA1 h0;obtain⟨a1,c⟩:=Gi (by kernel_rfl) h1;obtain⟨a2,d⟩:=eW (by kernel_rfl) h2;exact⟨⟨a,a1,a2⟩,trivial,(b.append (c.append (d.append .nil)))⟩
theorem bV2 {D:Nat} {cs:aA AV} (h:jE Tryz.prog D 162 cs):∃x:YD,(fun _=>True) x/\LR (RC false) x.g cs:=by
 obtain⟨D,h⟩:=eD Tryz.underlying162 h;obtain⟨c0,i,rfl,_,h0,c1,j,rfl,_,h1,c2,k,rfl,_,h2,e⟩:=h;subst e;obtain⟨a,f,b⟩:=rA1 h0;obtain⟨a1,c⟩:=eW (by kernel_rfl) h1;obtain⟨a2,d⟩:=Gi (by kernel_rfl) h2;exact⟨⟨a,a1,a2⟩,trivial,(b.append (c.append (d.append .nil)))⟩
theorem y91 {D:Nat} {cs:aA AV} (h:jE Tryz.prog D 91 cs):∃x:YY,(fun x=>x.b) x/\LR (RC false) x.g cs:=by
 obtain⟨D,h⟩:=eD Tryz.underlying91 h;obtain⟨c0,i,rfl,_,h0,c1,j,rfl,_,h1,e⟩:=h;subst e;obtain⟨a,c,d⟩:=Yj (by kernel_rfl) h0;obtain⟨a1,f⟩:=eW (by kernel_rfl) h1;exact⟨⟨a,a1⟩,⟨nE c⟩,(d.append (f.append .nil))⟩
theorem y87 {D:Nat} {cs:aA AV} (h:jE Tryz.prog D 87 cs):∃x:YE,(fun x=>x.b) x/\LR (RC false) x.g cs:=by
 obtain⟨D,h⟩:=eD Tryz.underlying87 h;obtain⟨c0,F,rfl,_,h0,c1,G,rfl,_,h1,c2,H,rfl,_,h2,c3,J,rfl,_,h3,c4,K,rfl,_,h4,c5,L,rfl,_,h5,c6,M,rfl,_,n,c7,N,rfl,_,o,c8,O,rfl,_,p,c9,P,rfl,_,q,c10,l,rfl,_,d,e⟩:=h;subst e;obtain⟨i,E,r⟩:=y43 h0;obtain⟨a1,s⟩:=eW (by kernel_rfl) h1;obtain⟨a2,b2,t⟩:=y82 h2;obtain⟨a3,⟨b3,c3⟩,u⟩:=Lo (B:=fun _=>True) (c:=YB.g) (m:=5) (by kernel_rfl) (by kernel_rfl) (fun _ _ h=>bU2 h) (fun _=>rfl) h3;obtain⟨a4,⟨j,c4⟩,v⟩:=Lo (B:=fun _=>True) (c:=YD.g) (m:=5) (by kernel_rfl) (by kernel_rfl) (fun _ _ h=>bV2 h) (fun _=>rfl) h4;obtain⟨a5,w⟩:=eW (by kernel_rfl) h5;obtain⟨a6,y⟩:=eW (by kernel_rfl) n;obtain⟨a7,z⟩:=eW (by kernel_rfl) o;obtain⟨a8,⟨k,c8⟩,A⟩:=Lo (B:=fun x=>x.b) (c:=YY.g) (m:=2) (by kernel_rfl) (by kernel_rfl) (fun _ _ h=>y91 h) (fun _=>rfl) p;obtain⟨a9,C⟩:=eW (by kernel_rfl) q;obtain⟨a,f⟩:=eW (by kernel_rfl) d;exact⟨⟨i,a1,a2,a3,a4,a5,a6,a7,a8,a9,a⟩,⟨nE b3,nE j,nE k,c8⟩,(r.append (s.append (t.append (u.append (v.append (w.append (y.append (z.append (A.append (C.append (f.append .nil)))))))))))⟩
theorem bW2 {D:Nat} {cs:aA AV} (h:jE Tryz.prog D 276 cs):∃x:YU,(fun _=>True) x/\LR (RC false) x.g cs:=by
 obtain⟨D,h⟩:=eD Tryz.underlying276 h;obtain⟨c0,i,rfl,_,h0,c1,j,rfl,_,h1,c2,k,rfl,_,h2,c3,l,rfl,_,h3,e⟩:=h;subst e;obtain⟨a,b⟩:=eW (by kernel_rfl) h0;obtain⟨a1,c⟩:=eW (by kernel_rfl) h1;obtain⟨a2,d⟩:=eW (by kernel_rfl) h2;obtain⟨a3,f⟩:=eW (by kernel_rfl) h3;exact⟨⟨a,a1,a2,a3⟩,trivial,(b.append (c.append (d.append (f.append .nil))))⟩
theorem y64 {D:Nat} {cs:aA AV} (h:jE Tryz.prog D 64 cs):∃x:YO,(fun x=>x.b) x/\LR (RC false) x.g cs:=by
 obtain⟨D,h⟩:=eD Tryz.underlying64 h;obtain⟨c0,j,rfl,_,h0,c1,k,rfl,_,h1,e⟩:=h;subst e;obtain⟨a,⟨d,c0⟩,f⟩:=Lo (B:=fun x=>x.b) (c:=YE.g) (m:=13) (by kernel_rfl) (by kernel_rfl) (fun _ _ h=>y87 h) (fun _=>rfl) h0;obtain⟨a1,⟨b1,c1⟩,i⟩:=Lo (B:=fun _=>True) (c:=YU.g) (m:=4) (by kernel_rfl) (by kernel_rfl) (fun _ _ h=>bW2 h) (fun _=>rfl) h1;exact⟨⟨a,a1⟩,⟨nE d,c0,nE b1⟩,(f.append (i.append .nil))⟩
theorem y59 {D:Nat} {cs:aA AV} (h:jE Tryz.prog D 59 cs):∃x:YW,(fun x=>x.b) x/\LR (RC false) x.g cs:=by
 obtain⟨D,h⟩:=eD Tryz.underlying59 h;obtain⟨c0,j,rfl,_,h0,c1,k,rfl,_,h1,e⟩:=h;subst e;obtain⟨a,⟨d,c0⟩,f⟩:=Lo (B:=fun _=>True) (c:=YC.g) (m:=2) (by kernel_rfl) (by kernel_rfl) (fun _ _ h=>bT2 h) (fun _=>rfl) h0;obtain⟨a1,⟨b1,c1⟩,i⟩:=Lo (B:=fun x=>x.b) (c:=YO.g) (m:=2) (by kernel_rfl) (by kernel_rfl) (fun _ _ h=>y64 h) (fun _=>rfl) h1;exact⟨⟨a,a1⟩,⟨nE d,nE b1,c1⟩,(f.append (i.append .nil))⟩
theorem y55 {D:Nat} {cs:aA AV} (h:jE Tryz.prog D 55 cs):∃x:YM,(fun x=>x.b) x/\LR (RC false) x.g cs:=by
 obtain⟨D,h⟩:=eD Tryz.underlying55 h;obtain⟨c0,U,rfl,_,h0,c1,V,rfl,_,h1,c2,W,rfl,_,h2,c3,X,rfl,_,h3,c4,Y,rfl,_,h4,c5,Z,rfl,_,h5,c6,d6,rfl,_,C,c7,d7,rfl,_,E,c8,d8,rfl,_,F,c9,d9,rfl,_,G,c10,w,rfl,_,n,c11,y,rfl,_,o,c12,z,rfl,_,p,c13,A,rfl,_,q,e⟩:=h;subst e;obtain⟨v,T,H⟩:=y43 h0;obtain⟨a1,b1,J⟩:=y51 h1;obtain⟨a2,K⟩:=eW (by kernel_rfl) h2;obtain⟨a3,L⟩:=eW (by kernel_rfl) h3;obtain⟨a4,M⟩:=Gi (by kernel_rfl) h4;obtain⟨a5,N⟩:=eW (by kernel_rfl) h5;obtain⟨a6,O⟩:=eW (by kernel_rfl) C;obtain⟨a7,P⟩:=eW (by kernel_rfl) E;obtain⟨a8,R⟩:=eW (by kernel_rfl) F;obtain⟨a9,S⟩:=eW (by kernel_rfl) G;obtain⟨a,r⟩:=eW (by kernel_rfl) n;obtain⟨d,j,s⟩:=Yj (by kernel_rfl) o;obtain⟨f,⟨k,c12⟩,t⟩:=Lo (B:=fun _=>True) (c:=YT.g) (m:=3) (by kernel_rfl) (by kernel_rfl) (fun _ _ h=>bS2 h) (fun _=>rfl) p;obtain⟨i,⟨l,c13⟩,u⟩:=Lo (B:=fun x=>x.b) (c:=YW.g) (m:=2) (by kernel_rfl) (by kernel_rfl) (fun _ _ h=>y59 h) (fun _=>rfl) q;exact⟨⟨v,a1,a2,a3,a4,a5,a6,a7,a8,a9,a,d,f,i⟩,⟨nE j,nE k,nE l,c13⟩,(H.append (J.append (K.append (L.append (M.append (N.append (O.append (P.append (R.append (S.append (r.append (s.append (t.append (u.append .nil))))))))))))))⟩
theorem bX2 {D:Nat} {cs:aA AV} (h:jE Tryz.prog D 177 cs):∃x:YN,(fun _=>True) x/\LR (RC false) x.g cs:=by
 obtain⟨D,h⟩:=eD Tryz.underlying177 h;obtain⟨c0,j,rfl,_,h0,c1,k,rfl,_,h1,c2,l,rfl,_,h2,c3,m,rfl,_,h3,e⟩:=h;subst e;obtain⟨a,i,b⟩:=y43 h0;obtain⟨a1,c⟩:=eW (by kernel_rfl) h1;obtain⟨a2,b2,d⟩:=y43 h2;obtain⟨a3,b3,f⟩:=y43 h3;exact⟨⟨a,a1,a2,a3⟩,trivial,(b.append (c.append (d.append (f.append .nil))))⟩
theorem y27 {D:Nat} {cs:aA AV} (h:jE Tryz.prog D 27 cs):∃x:Y0,(fun x=>x.b) x/\LR (RC false) x.g cs:=by
 obtain⟨D,h⟩:=eD Tryz.underlying27 h;obtain⟨c0,q,rfl,_,h0,c1,r,rfl,_,h1,c2,s,rfl,_,h2,c3,t,rfl,_,h3,c4,u,rfl,_,h4,c5,v,rfl,_,h5,e⟩:=h;subst e;obtain⟨a,d,j⟩:=Yj (by kernel_rfl) h0;obtain⟨a1,k⟩:=Gi (by kernel_rfl) h1;obtain⟨a2,⟨b2,c2⟩,l⟩:=Lo (B:=fun x=>x.b) (c:=YJ.g) (m:=6) (by kernel_rfl) (by kernel_rfl) (fun _ _ h=>y48 h) (fun _=>rfl) h2;obtain⟨a3,⟨b3,c3⟩,n⟩:=Lo (B:=fun x=>x.b) (c:=YM.g) (m:=22) (by kernel_rfl) (by kernel_rfl) (fun _ _ h=>y55 h) (fun _=>rfl) h3;obtain⟨a4,⟨f,c4⟩,o⟩:=Lo (B:=fun _=>True) (c:=YN.g) (m:=7) (by kernel_rfl) (by kernel_rfl) (fun _ _ h=>bX2 h) (fun _=>rfl) h4;obtain⟨a5,⟨i,c5⟩,p⟩:=Lo (B:=fun _=>True) (c:=YZ.g) (m:=2) (by kernel_rfl) (by kernel_rfl) (fun _ _ h=>y43 h) (fun _=>rfl) h5;exact⟨⟨a,a1,a2,a3,a4,a5⟩,⟨nE d,nE b2,c2,nE b3,c3,nE f,nE i⟩,(j.append (k.append (l.append (n.append (o.append (p.append .nil))))))⟩
end Go.P
