import Derived.Test.YtfdbgfhnlgbonaaGreatPl
import Derived.Test.YtfdbgfhnlgbonaaGreatTb
import Derived.Test.YtfdbgfhnlgbonaaGreatRows
import Derived.KernelRfl
/- A text of the proof. -/
set_option linter.all false
set_option maxRecDepth 100000
set_option maxHeartbeats 2000000
namespace Go.P
open Go.Sim (jN kQ nD IFn kG AV vH rH tC nP runP exec Em)
open Go.Proofs
noncomputable section
def Uu {f e:Nat} (h:gD1 f e=true):(f=203/\e=5)\/(f=204/\e=2):=by
 unfold gD1 at h;simp only[aA3,iD]at h;obtain⟨h1,a⟩:=h;have a:=aR3 a;simp at h1;rcases h1 with rfl|rfl<;>simp[a]
def kK1 {M:Mm} (b:∀e∈M,e.1=5):∀f xs v,mZ f=false->B40 false f xs=some v->rQ (TM M) f xs v:=by
 intro f xs v _ h;have a:∀f,f≠5->∀ys,(TM M).memo f ys=none:=fun f hf ys=>rH (fun e he h=>hf ((h.symm.trans (b e he)))) ys;unfold B40 at h;split at h;rename_i e rows;cases hc:(gD1 f e&&Nat.ble rows.length 1073741824)with
 |false=>rw[hc]at h;cases h
 |true=>
  rw[hc]at h;cases h;simp only[aA3]at hc;obtain⟨h1,h2⟩:=hc;have h2:=aI3 h2;rcases Uu h1 with⟨rfl,rfl⟩|⟨rfl,rfl⟩
  exact Qi (show TM M 203=some (iL 211 5 40 [(.int .i64 0),(.int .i64 0),(.int .i64 0),(.int .i64 0),(.bool false)])by kernel_rfl) (a _ (by decide)) h2;exact Qi (show TM M 204=some (iL 166 2 24 [(.string ⟨#[]⟩),(.int .i64 0)])by kernel_rfl) (a _ (by decide)) h2
 cases h;cases h
def jS2 (M:Mm):mU1 (TM M) mZ Tt Rh Gi.run:=Zy (cl:=clN) fun f p h=>by
 unfold clN at h
 cases hf202:Nat.beq f 202 with
 |true=>
  rw[hf202]at h
  cases h
  obtain rfl:=aR3 hf202
  exact⟨rfl,rfl,_,_,show TM M 202=some {iL 135 5 40 [(.int .i64 0),(.int .i64 0),(.int .i64 0),(.bool false),(.int .i64 0)]with pure:=false,frz:=Tt 202}by kernel_rfl⟩
 |false=>
 rw[hf202]at h
 cases h
def Uv:nP Tryz.prog 19 [.agg (Wy 12 gE1.g)] (.v (.bool true)):=by
 refine fZ1 vH2 kJ1 (xs:=[.agg gE1.g]) ?_ (nD1 (by kernel_rfl)) (by kernel_rfl);refine tR1 (NW:=Gi) (kK1 (M:=[]) (fun _ h=>by cases h)) (jS2 []) (jP2 (M:=[]) (fun _ h=>by cases h)) 26 19 _ _ ?_;rw[show Od (B40 false) mZ Gi Rh 26 19 _=_ from qV1 0 gE1,show Ho gE1=some true by kernel_rfl];rfl
abbrev M2:Mm:=[(19,[.agg (Wy 12 gE1.g)],.v (.bool true))]
abbrev T2:kG:=⟨fun f=>(tl2[f]?).join,vH M2⟩
def vI2:jN Tryz.prog T2:=kQ.tab (M:=M2) vG2 ⟨Uv,trivial⟩
def bQ1:runP T2 (exec T2 300) 5 ix5 []=some (.v (.bool true)):=by kernel_rfl
def Re:nP Tryz.prog 5 [] (.v (.bool true)):=Em (fn:=ix5) vI2 kJ1 (by kernel_rfl) rfl rfl bQ1
def zU1:jN Tryz.prog TBL:=kQ.tab (M:=MK) jR2 ⟨Re,trivial⟩
def sX1:∀f xs v,mZ f=false->B40 true f xs=some v->rQ TBL f xs v:=by
 intro f xs v hf h;by_cases a:xs=[]/\f=5;obtain⟨rfl,rfl⟩:=a;cases h;exact gA1 (fn:=ix5) (by kernel_rfl) rfl rfl rfl;refine kK1 kI1 f xs v hf ?_;unfold B40 at h ⊢;split at h;exact h;cases hc:Nat.beq f 5 with
 |false=>rw[hc]at h;cases h
 |true=>exact(a ⟨rfl,aR3 hc⟩).elim
 cases h
end
end Go.P
namespace Go.P
open Go.Sim Go.Proofs
def y51 {D:Nat} {cs:aA AV} (h:mU Tryz.prog D 51 cs):∃x:YZ,(fun _=>True) x/\LR (RC false) x.g cs:=by
 obtain⟨D,h⟩:=hJ Tryz.underlying51 h;obtain⟨c0,d,rfl,_,h0,c1,d1,rfl,_,h1,e⟩:=h;subst e;obtain⟨a,b⟩:=iS (by kernel_rfl) h0;obtain⟨a1,c⟩:=iS (by kernel_rfl) h1;exact⟨⟨a,a1⟩,trivial,(b.append (c.append .nil))⟩
def vJ2 {D:Nat} {cs:aA AV} (h:mU Tryz.prog D 106 cs):∃x:YL,(fun _=>True) x/\LR (RC false) x.g cs:=by
 obtain⟨D,h⟩:=hJ Tryz.underlying106 h;obtain⟨c0,d,rfl,_,h0,c1,d1,rfl,_,h1,e⟩:=h;subst e;obtain⟨a,b⟩:=iS (by kernel_rfl) h0;obtain⟨a1,c⟩:=iS (by kernel_rfl) h1;exact⟨⟨a,a1⟩,trivial,(b.append (c.append .nil))⟩
def vK2 {D:Nat} {cs:aA AV} (h:mU Tryz.prog D 123 cs):∃x:YF,(fun _=>True) x/\LR (RC false) x.g cs:=by
 obtain⟨D,h⟩:=hJ Tryz.underlying123 h;obtain⟨c0,f,rfl,_,h0,c1,d1,rfl,_,h1,e⟩:=h;subst e;obtain⟨a,d,b⟩:=y51 h0;obtain⟨a1,c⟩:=iS (by kernel_rfl) h1;exact⟨⟨a,a1⟩,trivial,(b.append (c.append .nil))⟩
def vL2 {D:Nat} {cs:aA AV} (h:mU Tryz.prog D 109 cs):∃x:YJ,(fun x=>x.b) x/\LR (RC false) x.g cs:=by
 obtain⟨D,h⟩:=hJ Tryz.underlying109 h;obtain⟨c0,n,rfl,_,h0,c1,d1,rfl,_,h1,c2,o,rfl,_,h2,c3,p,rfl,_,d,e⟩:=h;subst e;obtain⟨a,l,f⟩:=y51 h0;obtain⟨a1,b1,i⟩:=nB1 (by kernel_rfl) h1;obtain⟨a2,b2,j⟩:=vJ2 h2;obtain⟨a3,⟨b3,c3⟩,k⟩:=Ww (B:=fun _=>True) (c:=YF.g) (m:=3) (by kernel_rfl) (by kernel_rfl) (fun _ _ h=>vK2 h) (fun _=>rfl) d;exact⟨⟨a,a1,a2,a3⟩,⟨sK b1,sK b3⟩,(f.append (i.append (j.append (k.append .nil))))⟩
def y62 {D:Nat} {cs:aA AV} (h:mU Tryz.prog D 62 cs):∃x:Y6,True/\LR (RC false) x.g cs:=by
 obtain⟨D,rows,rfl,hl,h⟩:=lB2 (n:=6) (e:=3) (by kernel_rfl) h;obtain⟨r0,r1,r2,r3,r4,r5,rfl⟩:=bA2 hl;obtain⟨a,h0⟩:=iS (by kernel_rfl) (h r0 (by simp)).2;obtain⟨a1,h1⟩:=iS (by kernel_rfl) (h r1 (by simp)).2;obtain⟨a2,h2⟩:=iS (by kernel_rfl) (h r2 (by simp)).2;obtain⟨a3,b⟩:=iS (by kernel_rfl) (h r3 (by simp)).2;obtain⟨a4,c⟩:=iS (by kernel_rfl) (h r4 (by simp)).2;obtain⟨a5,d⟩:=iS (by kernel_rfl) (h r5 (by simp)).2;exact⟨⟨a,a1,a2,a3,a4,a5⟩,trivial,(h0.append (h1.append (h2.append (b.append (c.append (d.append .nil))))))⟩
def y64 {D:Nat} {cs:aA AV} (h:mU Tryz.prog D 64 cs):∃x:YX,(fun _=>True) x/\LR (RC false) x.g cs:=by
 obtain⟨D,h⟩:=hJ Tryz.underlying64 h;obtain⟨c0,f,rfl,_,h0,c1,d1,rfl,_,h1,c2,i,rfl,_,h2,e⟩:=h;subst e;obtain⟨a,b⟩:=iS (by kernel_rfl) h0;obtain⟨a1,c⟩:=iS (by kernel_rfl) h1;obtain⟨a2,b2,d⟩:=y62 h2;exact⟨⟨a,a1,a2⟩,trivial,(b.append (c.append (d.append .nil)))⟩
def vM2 {D:Nat} {cs:aA AV} (h:mU Tryz.prog D 156 cs):∃x:YT,(fun _=>True) x/\LR (RC false) x.g cs:=by
 obtain⟨D,h⟩:=hJ Tryz.underlying156 h;obtain⟨c0,f,rfl,_,h0,c1,d1,rfl,_,h1,c2,i,rfl,_,h2,e⟩:=h;subst e;obtain⟨a,b⟩:=iS (by kernel_rfl) h0;obtain⟨a1,c⟩:=iS (by kernel_rfl) h1;obtain⟨a2,d⟩:=Qj (by kernel_rfl) h2;exact⟨⟨a,a1,a2⟩,trivial,(b.append (c.append (d.append .nil)))⟩
def vN2 {D:Nat} {cs:aA AV} (h:mU Tryz.prog D 186 cs):∃x:YC,(fun _=>True) x/\LR (RC false) x.g cs:=by
 obtain⟨D,h⟩:=hJ Tryz.underlying186 h;obtain⟨c0,d,rfl,_,h0,c1,d1,rfl,_,h1,e⟩:=h;subst e;obtain⟨a,b⟩:=iS (by kernel_rfl) h0;obtain⟨a1,c⟩:=iS (by kernel_rfl) h1;exact⟨⟨a,a1⟩,trivial,(b.append (c.append .nil))⟩
def y97 {D:Nat} {cs:aA AV} (h:mU Tryz.prog D 97 cs):∃x:YA,(fun _=>True) x/\LR (RC false) x.g cs:=by
 obtain⟨D,h⟩:=hJ Tryz.underlying97 h;obtain⟨c0,d,rfl,_,h0,c1,d1,rfl,_,h1,e⟩:=h;subst e;obtain⟨a,b⟩:=iS (by kernel_rfl) h0;obtain⟨a1,c⟩:=iS (by kernel_rfl) h1;exact⟨⟨a,a1⟩,trivial,(b.append (c.append .nil))⟩
def jT2 {D:Nat} {cs:aA AV} (h:mU Tryz.prog D 133 cs):∃x:YH,(fun _=>True) x/\LR (RC false) x.g cs:=by
 obtain⟨D,h⟩:=hJ Tryz.underlying133 h;obtain⟨c0,f,rfl,_,h0,c1,d1,rfl,_,h1,c2,i,rfl,_,h2,e⟩:=h;subst e;obtain⟨a,b⟩:=iS (by kernel_rfl) h0;obtain⟨a1,c⟩:=iS (by kernel_rfl) h1;obtain⟨a2,d⟩:=iS (by kernel_rfl) h2;exact⟨⟨a,a1,a2⟩,trivial,(b.append (c.append (d.append .nil)))⟩
def vO2 {D:Nat} {cs:aA AV} (h:mU Tryz.prog D 135 cs):∃x:YB,(fun _=>True) x/\LR (RC false) x.g cs:=by
 obtain⟨D,h⟩:=hJ Tryz.underlying135 h;obtain⟨c0,i,rfl,_,h0,c1,d1,rfl,_,h1,c2,j,rfl,_,h2,e⟩:=h;subst e;obtain⟨a,f,b⟩:=jT2 h0;obtain⟨a1,c⟩:=Qj (by kernel_rfl) h1;obtain⟨a2,d⟩:=iS (by kernel_rfl) h2;exact⟨⟨a,a1,a2⟩,trivial,(b.append (c.append (d.append .nil)))⟩
def vP2 {D:Nat} {cs:aA AV} (h:mU Tryz.prog D 211 cs):∃x:YD,(fun _=>True) x/\LR (RC false) x.g cs:=by
 obtain⟨D,h⟩:=hJ Tryz.underlying211 h;obtain⟨c0,i,rfl,_,h0,c1,d1,rfl,_,h1,c2,j,rfl,_,h2,e⟩:=h;subst e;obtain⟨a,f,b⟩:=jT2 h0;obtain⟨a1,c⟩:=iS (by kernel_rfl) h1;obtain⟨a2,d⟩:=Qj (by kernel_rfl) h2;exact⟨⟨a,a1,a2⟩,trivial,(b.append (c.append (d.append .nil)))⟩
def vQ2 {D:Nat} {cs:aA AV} (h:mU Tryz.prog D 166 cs):∃x:YY,(fun x=>x.b) x/\LR (RC false) x.g cs:=by
 obtain⟨D,h⟩:=hJ Tryz.underlying166 h;obtain⟨c0,i,rfl,_,h0,c1,d1,rfl,_,h1,e⟩:=h;subst e;obtain⟨a,c,d⟩:=nB1 (by kernel_rfl) h0;obtain⟨a1,f⟩:=iS (by kernel_rfl) h1;exact⟨⟨a,a1⟩,⟨sK c⟩,(d.append (f.append .nil))⟩
def vR2 {D:Nat} {cs:aA AV} (h:mU Tryz.prog D 102 cs):∃x:YE,(fun x=>x.b) x/\LR (RC false) x.g cs:=by
 obtain⟨D,h⟩:=hJ Tryz.underlying102 h;obtain⟨c0,J,rfl,_,h0,c1,d1,rfl,_,h1,c2,K,rfl,_,h2,c3,L,rfl,_,n,c4,M,rfl,_,o,c5,N,rfl,_,p,c6,O,rfl,_,q,c7,P,rfl,_,r,c8,R,rfl,_,s,c9,S,rfl,_,t,c10,l,rfl,_,d,e⟩:=h;subst e;obtain⟨i,H,u⟩:=y51 h0;obtain⟨a1,v⟩:=iS (by kernel_rfl) h1;obtain⟨a2,b2,w⟩:=y97 h2;obtain⟨a3,⟨b3,c3⟩,y⟩:=Ww (B:=fun _=>True) (c:=YB.g) (m:=5) (by kernel_rfl) (by kernel_rfl) (fun _ _ h=>vO2 h) (fun _=>rfl) n;obtain⟨a4,⟨j,c4⟩,z⟩:=Ww (B:=fun _=>True) (c:=YD.g) (m:=5) (by kernel_rfl) (by kernel_rfl) (fun _ _ h=>vP2 h) (fun _=>rfl) o;obtain⟨a5,A⟩:=iS (by kernel_rfl) p;obtain⟨a6,C⟩:=iS (by kernel_rfl) q;obtain⟨a7,E⟩:=iS (by kernel_rfl) r;obtain⟨a8,⟨k,c8⟩,F⟩:=Ww (B:=fun x=>x.b) (c:=YY.g) (m:=2) (by kernel_rfl) (by kernel_rfl) (fun _ _ h=>vQ2 h) (fun _=>rfl) s;obtain⟨a9,G⟩:=iS (by kernel_rfl) t;obtain⟨a,f⟩:=iS (by kernel_rfl) d;exact⟨⟨i,a1,a2,a3,a4,a5,a6,a7,a8,a9,a⟩,⟨sK b3,sK j,sK k,c8⟩,(u.append (v.append (w.append (y.append (z.append (A.append (C.append (E.append (F.append (G.append (f.append .nil)))))))))))⟩
def vS2 {D:Nat} {cs:aA AV} (h:mU Tryz.prog D 285 cs):∃x:YU,(fun _=>True) x/\LR (RC false) x.g cs:=by
 obtain⟨D,h⟩:=hJ Tryz.underlying285 h;obtain⟨c0,j,rfl,_,h0,c1,d1,rfl,_,h1,c2,k,rfl,_,h2,c3,l,rfl,_,b,e⟩:=h;subst e;obtain⟨a,c⟩:=iS (by kernel_rfl) h0;obtain⟨a1,d⟩:=iS (by kernel_rfl) h1;obtain⟨a2,f⟩:=iS (by kernel_rfl) h2;obtain⟨a3,i⟩:=iS (by kernel_rfl) b;exact⟨⟨a,a1,a2,a3⟩,trivial,(c.append (d.append (f.append (i.append .nil))))⟩
def y57 {D:Nat} {cs:aA AV} (h:mU Tryz.prog D 57 cs):∃x:YO,(fun x=>x.b) x/\LR (RC false) x.g cs:=by
 obtain⟨D,h⟩:=hJ Tryz.underlying57 h;obtain⟨c0,j,rfl,_,h0,c1,d1,rfl,_,h1,e⟩:=h;subst e;obtain⟨a,⟨d,c0⟩,f⟩:=Ww (B:=fun x=>x.b) (c:=YE.g) (m:=13) (by kernel_rfl) (by kernel_rfl) (fun _ _ h=>vR2 h) (fun _=>rfl) h0;obtain⟨a1,⟨b1,c1⟩,i⟩:=Ww (B:=fun _=>True) (c:=YU.g) (m:=4) (by kernel_rfl) (by kernel_rfl) (fun _ _ h=>vS2 h) (fun _=>rfl) h1;exact⟨⟨a,a1⟩,⟨sK d,c0,sK b1⟩,(f.append (i.append .nil))⟩
def y61 {D:Nat} {cs:aA AV} (h:mU Tryz.prog D 61 cs):∃x:YW,(fun x=>x.b) x/\LR (RC false) x.g cs:=by
 obtain⟨D,h⟩:=hJ Tryz.underlying61 h;obtain⟨c0,j,rfl,_,h0,c1,d1,rfl,_,h1,e⟩:=h;subst e;obtain⟨a,⟨d,c0⟩,f⟩:=Ww (B:=fun _=>True) (c:=YC.g) (m:=2) (by kernel_rfl) (by kernel_rfl) (fun _ _ h=>vN2 h) (fun _=>rfl) h0;obtain⟨a1,⟨b1,c1⟩,i⟩:=Ww (B:=fun x=>x.b) (c:=YO.g) (m:=2) (by kernel_rfl) (by kernel_rfl) (fun _ _ h=>y57 h) (fun _=>rfl) h1;exact⟨⟨a,a1⟩,⟨sK d,sK b1,c1⟩,(f.append (i.append .nil))⟩
def y68 {D:Nat} {cs:aA AV} (h:mU Tryz.prog D 68 cs):∃x:YM,(fun x=>x.b) x/\LR (RC false) x.g cs:=by
 obtain⟨D,h⟩:=hJ Tryz.underlying68 h;obtain⟨c0,X,rfl,_,h0,c1,d1,rfl,_,h1,c2,Y,rfl,_,h2,c3,Z,rfl,_,C,c4,d4,rfl,_,E,c5,d5,rfl,_,F,c6,d6,rfl,_,G,c7,d7,rfl,_,H,c8,d8,rfl,_,J,c9,d9,rfl,_,K,c10,w,rfl,_,n,c11,y,rfl,_,o,c12,z,rfl,_,p,c13,A,rfl,_,q,e⟩:=h;subst e;obtain⟨v,W,L⟩:=y51 h0;obtain⟨a1,b1,M⟩:=y64 h1;obtain⟨a2,N⟩:=iS (by kernel_rfl) h2;obtain⟨a3,O⟩:=iS (by kernel_rfl) C;obtain⟨a4,P⟩:=Qj (by kernel_rfl) E;obtain⟨a5,R⟩:=iS (by kernel_rfl) F;obtain⟨a6,S⟩:=iS (by kernel_rfl) G;obtain⟨a7,T⟩:=iS (by kernel_rfl) H;obtain⟨a8,U⟩:=iS (by kernel_rfl) J;obtain⟨a9,V⟩:=iS (by kernel_rfl) K;obtain⟨a,r⟩:=iS (by kernel_rfl) n;obtain⟨d,j,s⟩:=nB1 (by kernel_rfl) o;obtain⟨f,⟨k,c12⟩,t⟩:=Ww (B:=fun _=>True) (c:=YT.g) (m:=3) (by kernel_rfl) (by kernel_rfl) (fun _ _ h=>vM2 h) (fun _=>rfl) p;obtain⟨i,⟨l,c13⟩,u⟩:=Ww (B:=fun x=>x.b) (c:=YW.g) (m:=2) (by kernel_rfl) (by kernel_rfl) (fun _ _ h=>y61 h) (fun _=>rfl) q;exact⟨⟨v,a1,a2,a3,a4,a5,a6,a7,a8,a9,a,d,f,i⟩,⟨sK j,sK k,sK l,c13⟩,(L.append (M.append (N.append (O.append (P.append (R.append (S.append (T.append (U.append (V.append (r.append (s.append (t.append (u.append .nil))))))))))))))⟩
def vT2 {D:Nat} {cs:aA AV} (h:mU Tryz.prog D 114 cs):∃x:YN,(fun _=>True) x/\LR (RC false) x.g cs:=by
 obtain⟨D,h⟩:=hJ Tryz.underlying114 h;obtain⟨c0,k,rfl,_,h0,c1,d1,rfl,_,h1,c2,l,rfl,_,h2,c3,m,rfl,_,b,e⟩:=h;subst e;obtain⟨a,j,c⟩:=y51 h0;obtain⟨a1,d⟩:=iS (by kernel_rfl) h1;obtain⟨a2,b2,f⟩:=y51 h2;obtain⟨a3,b3,i⟩:=y51 b;exact⟨⟨a,a1,a2,a3⟩,trivial,(c.append (d.append (f.append (i.append .nil))))⟩
def y27 {D:Nat} {cs:aA AV} (h:mU Tryz.prog D 27 cs):∃x:Y0,(fun x=>x.b) x/\LR (RC false) x.g cs:=by
 obtain⟨D,h⟩:=hJ Tryz.underlying27 h;obtain⟨c0,t,rfl,_,h0,c1,d1,rfl,_,h1,c2,u,rfl,_,h2,c3,v,rfl,_,j,c4,w,rfl,_,k,c5,y,rfl,_,l,e⟩:=h;subst e;obtain⟨a,d,n⟩:=nB1 (by kernel_rfl) h0;obtain⟨a1,o⟩:=Qj (by kernel_rfl) h1;obtain⟨a2,⟨b2,c2⟩,p⟩:=Ww (B:=fun x=>x.b) (c:=YJ.g) (m:=6) (by kernel_rfl) (by kernel_rfl) (fun _ _ h=>vL2 h) (fun _=>rfl) h2;obtain⟨a3,⟨b3,c3⟩,q⟩:=Ww (B:=fun x=>x.b) (c:=YM.g) (m:=22) (by kernel_rfl) (by kernel_rfl) (fun _ _ h=>y68 h) (fun _=>rfl) j;obtain⟨a4,⟨f,c4⟩,r⟩:=Ww (B:=fun _=>True) (c:=YN.g) (m:=7) (by kernel_rfl) (by kernel_rfl) (fun _ _ h=>vT2 h) (fun _=>rfl) k;obtain⟨a5,⟨i,c5⟩,s⟩:=Ww (B:=fun _=>True) (c:=YZ.g) (m:=2) (by kernel_rfl) (by kernel_rfl) (fun _ _ h=>y51 h) (fun _=>rfl) l;exact⟨⟨a,a1,a2,a3,a4,a5⟩,⟨sK d,sK b2,c2,sK b3,c3,sK f,sK i⟩,(n.append (o.append (p.append (q.append (r.append (s.append .nil))))))⟩
end Go.P
