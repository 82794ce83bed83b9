import Derived.Test.YtfdbgfhnlgbonaaGreatPl
import Derived.Test.YtfdbgfhnlgbonaaGreatTb
import Derived.Test.YtfdbgfhnlgbonaaGreatRows
import Derived.KernelRfl
/- A text of the proof. -/
set_option linter.all false
set_option maxRecDepth 100000
set_option maxHeartbeats 2000000
namespace Go.P
open Go.Sim (jT kX nH IFn jW AV vJ rP tH nR runP exec Ew)
open Go.Proofs
noncomputable section
def Us {f e:Nat} (h:fL1 f e=true):(f=41/\e=2)\/(f=67/\e=3)\/(f=68/\e=3)\/(f=100/\e=2)\/(f=202/\e=5)\/(f=203/\e=5)\/(f=204/\e=2):=by
 unfold fL1 at h;simp only[yS2,gN]at h;obtain⟨h1,a⟩:=h;have a:=zM2 a;simp at h1;rcases h1 with rfl|rfl|rfl|rfl|rfl|rfl|rfl<;>simp[a]
def iQ1 {M:Mm} (b:∀e∈M,e.1=5):∀f xs v,mQ f=false->Wx false f xs=some v->rX (TM M) f xs v:=by
 intro f xs v _ h;have a:∀f,f≠5->∀ys,(TM M).memo f ys=none:=fun f hf ys=>rP (fun e he h=>hf (h.symm.trans (b e he))) ys;unfold Wx at h;split at h;rename_i e rows;cases hc:(fL1 f e&&Nat.ble rows.length 1073741824)with
 |false=>rw[hc]at h;cases h
 |true=>
  rw[hc]at h;cases h;simp only[yS2]at hc;obtain⟨h1,h2⟩:=hc;have h2:=zH2 h2;rcases Us h1 with⟨rfl,rfl⟩|⟨rfl,rfl⟩|⟨rfl,rfl⟩|⟨rfl,rfl⟩|⟨rfl,rfl⟩|⟨rfl,rfl⟩|⟨rfl,rfl⟩
  exact pF (show TM M 41=some (dG 51 2 16 [.int .i64 0,.int .i64 0])by kernel_rfl) (a _ (by decide)) h2;exact pF (show TM M 67=some (dG 123 3 24 [.int .i64 0,.int .i64 0,.int .i64 0])by kernel_rfl) (a _ (by decide)) h2;exact pF (show TM M 68=some (dG 156 3 24 [.int .i64 0,.int .i64 0,.bool false])by kernel_rfl) (a _ (by decide)) h2;exact pF (show TM M 100=some (dG 186 2 16 [.int .i64 0,.int .i64 0])by kernel_rfl) (a _ (by decide)) h2;exact pF (show TM M 202=some (dG 135 5 40 [.int .i64 0,.int .i64 0,.int .i64 0,.bool false,.int .i64 0])by kernel_rfl) (a _ (by decide)) h2;exact pF (show TM M 203=some (dG 211 5 40 [.int .i64 0,.int .i64 0,.int .i64 0,.int .i64 0,.bool false])by kernel_rfl) (a _ (by decide)) h2;exact pF (show TM M 204=some (dG 166 2 24 [(.string ⟨#[]⟩),.int .i64 0])by kernel_rfl) (a _ (by decide)) h2
 cases h;cases h
def gN2 (M:Mm):∀f p,clN f=some p->dY p.1=false/\Nat.ble 4294967296 p.2=false/\∃k zero,TM M f=some {dG p.1 p.2 k zero with pure:=false,frz:=Hj f}:=fun f p h=>by
 unfold clN at h
 cases hf40:Nat.beq f 40 with
 |true=>
  rw[hf40]at h
  cases h
  obtain rfl:=zM2 hf40
  exact⟨rfl,rfl,_,_,show TM M 40=some {dG 114 7 56 [.int .i64 0,.int .i64 0,.int .i64 0,.int .i64 0,.int .i64 0,.int .i64 0,.int .i64 0]with pure:=false,frz:=Hj 40}by kernel_rfl⟩
 |false=>
 rw[hf40]at h
 cases hf65:Nat.beq f 65 with
 |true=>
  rw[hf65]at h
  cases h
  obtain rfl:=zM2 hf65
  exact⟨rfl,rfl,_,_,show TM M 65=some {dG 68 22 216 [.int .i64 0,.int .i64 0,.int .i64 0,.int .i64 0,.int .i64 0,.int .i64 0,.int .i64 0,.int .i64 0,.int .i64 0,.int .i64 0,.int .i64 0,.int .i64 0,.bool false,.int .i64 0,.int .i64 0,.int .i64 0,.int .i64 0,.int .i64 0,.int .i64 0,(.string ⟨#[]⟩),.slice none 0 0,.slice none 0 0]with pure:=false,frz:=Hj 65}by kernel_rfl⟩
 |false=>
 rw[hf65]at h
 cases hf66:Nat.beq f 66 with
 |true=>
  rw[hf66]at h
  cases h
  obtain rfl:=zM2 hf66
  exact⟨rfl,rfl,_,_,show TM M 66=some {dG 61 2 48 [.slice none 0 0,.slice none 0 0]with pure:=false,frz:=Hj 66}by kernel_rfl⟩
 |false=>
 rw[hf66]at h
 cases h
def gO2 (M:Mm):Qm (TM M) mQ Hj Jm wO.run:=lI1 (Zj (cl:=clN) (gN2 M)) (Zk (cl:=clN) (gN2 M))
def Ut:nR Tryz.prog 19 [.agg (Ww 12 fM1.g)] (.v (.bool true)):=by
 refine fJ1 tQ2 iP1 (xs:=[.agg fM1.g]) ?_ (lQ1 (by kernel_rfl)) (by kernel_rfl);refine rY1 (NW:=wO) (iQ1 (M:=[]) (fun _ h=>by cases h)) (gO2 []) (gK2 (M:=[]) (fun _ h=>by cases h)) 26 19 _ _ ?_;rw[show Od (Wx false) mQ wO Jm 26 19 _=_ from vO1 0 fM1,show F19 fM1=some true by kernel_rfl];rfl
abbrev M2:Mm:=[(19,[.agg (Ww 12 fM1.g)],.v (.bool true))]
abbrev T2:jW:=⟨fun f=>(tl2[f]?).join,vJ M2⟩
def tR2:jT Tryz.prog T2:=kX.tab (M:=M2) tP2 ⟨Ut,trivial⟩
def aX1:runP T2 (exec T2 300) 5 ix5 []=some (.v (.bool true)):=by kernel_rfl
def Rm:nR Tryz.prog 5 [] (.v (.bool true)):=Ew (fn:=ix5) tR2 iP1 (by kernel_rfl) rfl rfl aX1
def wV1:jT Tryz.prog TBL:=kX.tab (M:=MK) gM2 ⟨Rm,trivial⟩
def rB1:∀f xs v,mQ f=false->Wx true f xs=some v->rX TBL f xs v:=by
 intro f xs v hf h;by_cases a:xs=[]/\f=5;obtain⟨rfl,rfl⟩:=a;cases h;exact fK1 (fn:=ix5) (by kernel_rfl) rfl rfl rfl;refine iQ1 iO1 f xs v hf ?_;unfold Wx at h ⊢;split at h;exact h;cases hc:Nat.beq f 5 with
 |false=>rw[hc]at h;cases h
 |true=>exact(a ⟨rfl,zM2 hc⟩).elim
 cases h
end
end Go.P
namespace Go.P
open Go.Sim Go.Proofs
def y51 {D:Nat} {cs:aA AV} (h:nG Tryz.prog D 51 cs):∃x:YZ,(fun _=>True) x/\LR (RC false) x.g cs:=by
 obtain⟨D,h⟩:=hJ Tryz.underlying51 h;obtain⟨c0,d,rfl,_,h0,c1,d1,rfl,_,h1,e⟩:=h;subst e;obtain⟨a,b⟩:=iQ (by kernel_rfl) h0;obtain⟨a1,c⟩:=iQ (by kernel_rfl) h1;exact⟨⟨a,a1⟩,trivial,b.append (c.append .nil)⟩
def tS2 {D:Nat} {cs:aA AV} (h:nG Tryz.prog D 106 cs):∃x:YL,(fun _=>True) x/\LR (RC false) x.g cs:=by
 obtain⟨D,h⟩:=hJ Tryz.underlying106 h;obtain⟨c0,d,rfl,_,h0,c1,d1,rfl,_,h1,e⟩:=h;subst e;obtain⟨a,b⟩:=iQ (by kernel_rfl) h0;obtain⟨a1,c⟩:=iQ (by kernel_rfl) h1;exact⟨⟨a,a1⟩,trivial,b.append (c.append .nil)⟩
def tT2 {D:Nat} {cs:aA AV} (h:nG Tryz.prog D 123 cs):∃x:YF,(fun _=>True) x/\LR (RC false) x.g cs:=by
 obtain⟨D,h⟩:=hJ Tryz.underlying123 h;obtain⟨c0,f,rfl,_,h0,c1,d1,rfl,_,h1,e⟩:=h;subst e;obtain⟨a,d,b⟩:=y51 h0;obtain⟨a1,c⟩:=iQ (by kernel_rfl) h1;exact⟨⟨a,a1⟩,trivial,b.append (c.append .nil)⟩
def tU2 {D:Nat} {cs:aA AV} (h:nG Tryz.prog D 109 cs):∃x:YJ,(fun x=>x.b) x/\LR (RC false) x.g cs:=by
 obtain⟨D,h⟩:=hJ Tryz.underlying109 h;obtain⟨c0,n,rfl,_,h0,c1,d1,rfl,_,h1,c2,o,rfl,_,h2,c3,p,rfl,_,d,e⟩:=h;subst e;obtain⟨a,l,f⟩:=y51 h0;obtain⟨a1,b1,i⟩:=lO1 (by kernel_rfl) h1;obtain⟨a2,b2,j⟩:=tS2 h2;obtain⟨a3,⟨b3,c3⟩,k⟩:=Tt (B:=fun _=>True) (c:=YF.g) (m:=3) (by kernel_rfl) (by kernel_rfl) (fun _ _ h=>tT2 h) (fun _=>rfl) d;exact⟨⟨a,a1,a2,a3⟩,⟨rZ b1,rZ b3⟩,f.append (i.append (j.append (k.append .nil)))⟩
def y62 {D:Nat} {cs:aA AV} (h:nG Tryz.prog D 62 cs):∃x:Y6,True/\LR (RC false) x.g cs:=by
 obtain⟨D,rows,rfl,hl,h⟩:=iP2 (n:=6) (e:=3) (by kernel_rfl) h;obtain⟨f,r1,r2,r3,r4,r5,rfl⟩:=yJ1 hl;obtain⟨a,h0⟩:=iQ (by kernel_rfl) (h f (by simp)).2;obtain⟨a1,h1⟩:=iQ (by kernel_rfl) (h r1 (by simp)).2;obtain⟨a2,h2⟩:=iQ (by kernel_rfl) (h r2 (by simp)).2;obtain⟨a3,b⟩:=iQ (by kernel_rfl) (h r3 (by simp)).2;obtain⟨a4,c⟩:=iQ (by kernel_rfl) (h r4 (by simp)).2;obtain⟨a5,d⟩:=iQ (by kernel_rfl) (h r5 (by simp)).2;exact⟨⟨a,a1,a2,a3,a4,a5⟩,trivial,h0.append (h1.append (h2.append (b.append (c.append (d.append .nil)))))⟩
def y64 {D:Nat} {cs:aA AV} (h:nG Tryz.prog D 64 cs):∃x:YX,(fun _=>True) x/\LR (RC false) x.g cs:=by
 obtain⟨D,h⟩:=hJ Tryz.underlying64 h;obtain⟨c0,f,rfl,_,h0,c1,d1,rfl,_,h1,c2,i,rfl,_,h2,e⟩:=h;subst e;obtain⟨a,b⟩:=iQ (by kernel_rfl) h0;obtain⟨a1,c⟩:=iQ (by kernel_rfl) h1;obtain⟨a2,b2,d⟩:=y62 h2;exact⟨⟨a,a1,a2⟩,trivial,b.append (c.append (d.append .nil))⟩
def tV2 {D:Nat} {cs:aA AV} (h:nG Tryz.prog D 156 cs):∃x:YT,(fun _=>True) x/\LR (RC false) x.g cs:=by
 obtain⟨D,h⟩:=hJ Tryz.underlying156 h;obtain⟨c0,f,rfl,_,h0,c1,d1,rfl,_,h1,c2,i,rfl,_,h2,e⟩:=h;subst e;obtain⟨a,b⟩:=iQ (by kernel_rfl) h0;obtain⟨a1,c⟩:=iQ (by kernel_rfl) h1;obtain⟨a2,d⟩:=Qv (by kernel_rfl) h2;exact⟨⟨a,a1,a2⟩,trivial,b.append (c.append (d.append .nil))⟩
def tW2 {D:Nat} {cs:aA AV} (h:nG Tryz.prog D 186 cs):∃x:YC,(fun _=>True) x/\LR (RC false) x.g cs:=by
 obtain⟨D,h⟩:=hJ Tryz.underlying186 h;obtain⟨c0,d,rfl,_,h0,c1,d1,rfl,_,h1,e⟩:=h;subst e;obtain⟨a,b⟩:=iQ (by kernel_rfl) h0;obtain⟨a1,c⟩:=iQ (by kernel_rfl) h1;exact⟨⟨a,a1⟩,trivial,b.append (c.append .nil)⟩
def y97 {D:Nat} {cs:aA AV} (h:nG Tryz.prog D 97 cs):∃x:YA,(fun _=>True) x/\LR (RC false) x.g cs:=by
 obtain⟨D,h⟩:=hJ Tryz.underlying97 h;obtain⟨c0,d,rfl,_,h0,c1,d1,rfl,_,h1,e⟩:=h;subst e;obtain⟨a,b⟩:=iQ (by kernel_rfl) h0;obtain⟨a1,c⟩:=iQ (by kernel_rfl) h1;exact⟨⟨a,a1⟩,trivial,b.append (c.append .nil)⟩
def gP2 {D:Nat} {cs:aA AV} (h:nG Tryz.prog D 133 cs):∃x:YH,(fun _=>True) x/\LR (RC false) x.g cs:=by
 obtain⟨D,h⟩:=hJ Tryz.underlying133 h;obtain⟨c0,f,rfl,_,h0,c1,d1,rfl,_,h1,c2,i,rfl,_,h2,e⟩:=h;subst e;obtain⟨a,b⟩:=iQ (by kernel_rfl) h0;obtain⟨a1,c⟩:=iQ (by kernel_rfl) h1;obtain⟨a2,d⟩:=iQ (by kernel_rfl) h2;exact⟨⟨a,a1,a2⟩,trivial,b.append (c.append (d.append .nil))⟩
def tX2 {D:Nat} {cs:aA AV} (h:nG Tryz.prog D 135 cs):∃x:YB,(fun _=>True) x/\LR (RC false) x.g cs:=by
 obtain⟨D,h⟩:=hJ Tryz.underlying135 h;obtain⟨c0,i,rfl,_,h0,c1,d1,rfl,_,h1,c2,j,rfl,_,h2,e⟩:=h;subst e;obtain⟨a,f,b⟩:=gP2 h0;obtain⟨a1,c⟩:=Qv (by kernel_rfl) h1;obtain⟨a2,d⟩:=iQ (by kernel_rfl) h2;exact⟨⟨a,a1,a2⟩,trivial,b.append (c.append (d.append .nil))⟩
def tY2 {D:Nat} {cs:aA AV} (h:nG Tryz.prog D 211 cs):∃x:YD,(fun _=>True) x/\LR (RC false) x.g cs:=by
 obtain⟨D,h⟩:=hJ Tryz.underlying211 h;obtain⟨c0,i,rfl,_,h0,c1,d1,rfl,_,h1,c2,j,rfl,_,h2,e⟩:=h;subst e;obtain⟨a,f,b⟩:=gP2 h0;obtain⟨a1,c⟩:=iQ (by kernel_rfl) h1;obtain⟨a2,d⟩:=Qv (by kernel_rfl) h2;exact⟨⟨a,a1,a2⟩,trivial,b.append (c.append (d.append .nil))⟩
def tZ2 {D:Nat} {cs:aA AV} (h:nG Tryz.prog D 166 cs):∃x:YY,(fun x=>x.b) x/\LR (RC false) x.g cs:=by
 obtain⟨D,h⟩:=hJ Tryz.underlying166 h;obtain⟨c0,i,rfl,_,h0,c1,d1,rfl,_,h1,e⟩:=h;subst e;obtain⟨a,c,d⟩:=lO1 (by kernel_rfl) h0;obtain⟨a1,f⟩:=iQ (by kernel_rfl) h1;exact⟨⟨a,a1⟩,⟨rZ c⟩,d.append (f.append .nil)⟩
def uA2 {D:Nat} {cs:aA AV} (h:nG Tryz.prog D 102 cs):∃x:YE,(fun x=>x.b) x/\LR (RC false) x.g cs:=by
 obtain⟨D,h⟩:=hJ Tryz.underlying102 h;obtain⟨c0,J,rfl,_,h0,c1,d1,rfl,_,h1,c2,K,rfl,_,h2,c3,L,rfl,_,n,c4,M,rfl,_,o,c5,N,rfl,_,p,c6,O,rfl,_,q,c7,P,rfl,_,r,c8,R,rfl,_,s,c9,S,rfl,_,t,c10,l,rfl,_,d,e⟩:=h;subst e;obtain⟨i,H,u⟩:=y51 h0;obtain⟨a1,v⟩:=iQ (by kernel_rfl) h1;obtain⟨a2,b2,w⟩:=y97 h2;obtain⟨a3,⟨b3,c3⟩,y⟩:=Tt (B:=fun _=>True) (c:=YB.g) (m:=5) (by kernel_rfl) (by kernel_rfl) (fun _ _ h=>tX2 h) (fun _=>rfl) n;obtain⟨a4,⟨j,c4⟩,z⟩:=Tt (B:=fun _=>True) (c:=YD.g) (m:=5) (by kernel_rfl) (by kernel_rfl) (fun _ _ h=>tY2 h) (fun _=>rfl) o;obtain⟨a5,A⟩:=iQ (by kernel_rfl) p;obtain⟨a6,C⟩:=iQ (by kernel_rfl) q;obtain⟨a7,E⟩:=iQ (by kernel_rfl) r;obtain⟨a8,⟨k,c8⟩,F⟩:=Tt (B:=fun x=>x.b) (c:=YY.g) (m:=2) (by kernel_rfl) (by kernel_rfl) (fun _ _ h=>tZ2 h) (fun _=>rfl) s;obtain⟨a9,G⟩:=iQ (by kernel_rfl) t;obtain⟨a,f⟩:=iQ (by kernel_rfl) d;exact⟨⟨i,a1,a2,a3,a4,a5,a6,a7,a8,a9,a⟩,⟨rZ b3,rZ j,rZ k,c8⟩,u.append (v.append (w.append (y.append (z.append (A.append (C.append (E.append (F.append (G.append (f.append .nil))))))))))⟩
def uB2 {D:Nat} {cs:aA AV} (h:nG Tryz.prog D 285 cs):∃x:YU,(fun _=>True) x/\LR (RC false) x.g cs:=by
 obtain⟨D,h⟩:=hJ Tryz.underlying285 h;obtain⟨c0,j,rfl,_,h0,c1,d1,rfl,_,h1,c2,k,rfl,_,h2,c3,l,rfl,_,b,e⟩:=h;subst e;obtain⟨a,c⟩:=iQ (by kernel_rfl) h0;obtain⟨a1,d⟩:=iQ (by kernel_rfl) h1;obtain⟨a2,f⟩:=iQ (by kernel_rfl) h2;obtain⟨a3,i⟩:=iQ (by kernel_rfl) b;exact⟨⟨a,a1,a2,a3⟩,trivial,c.append (d.append (f.append (i.append .nil)))⟩
def y57 {D:Nat} {cs:aA AV} (h:nG Tryz.prog D 57 cs):∃x:YO,(fun x=>x.b) x/\LR (RC false) x.g cs:=by
 obtain⟨D,h⟩:=hJ Tryz.underlying57 h;obtain⟨c0,j,rfl,_,h0,c1,d1,rfl,_,h1,e⟩:=h;subst e;obtain⟨a,⟨d,c0⟩,f⟩:=Tt (B:=fun x=>x.b) (c:=YE.g) (m:=13) (by kernel_rfl) (by kernel_rfl) (fun _ _ h=>uA2 h) (fun _=>rfl) h0;obtain⟨a1,⟨b1,c1⟩,i⟩:=Tt (B:=fun _=>True) (c:=YU.g) (m:=4) (by kernel_rfl) (by kernel_rfl) (fun _ _ h=>uB2 h) (fun _=>rfl) h1;exact⟨⟨a,a1⟩,⟨rZ d,c0,rZ b1⟩,f.append (i.append .nil)⟩
def y61 {D:Nat} {cs:aA AV} (h:nG Tryz.prog D 61 cs):∃x:YW,(fun x=>x.b) x/\LR (RC false) x.g cs:=by
 obtain⟨D,h⟩:=hJ Tryz.underlying61 h;obtain⟨c0,j,rfl,_,h0,c1,d1,rfl,_,h1,e⟩:=h;subst e;obtain⟨a,⟨d,c0⟩,f⟩:=Tt (B:=fun _=>True) (c:=YC.g) (m:=2) (by kernel_rfl) (by kernel_rfl) (fun _ _ h=>tW2 h) (fun _=>rfl) h0;obtain⟨a1,⟨b1,c1⟩,i⟩:=Tt (B:=fun x=>x.b) (c:=YO.g) (m:=2) (by kernel_rfl) (by kernel_rfl) (fun _ _ h=>y57 h) (fun _=>rfl) h1;exact⟨⟨a,a1⟩,⟨rZ d,rZ b1,c1⟩,f.append (i.append .nil)⟩
def y68 {D:Nat} {cs:aA AV} (h:nG Tryz.prog D 68 cs):∃x:YM,(fun x=>x.b) x/\LR (RC false) x.g cs:=by
 obtain⟨D,h⟩:=hJ Tryz.underlying68 h;obtain⟨c0,X,rfl,_,h0,c1,d1,rfl,_,h1,c2,Y,rfl,_,h2,c3,Z,rfl,_,C,c4,d4,rfl,_,E,c5,d5,rfl,_,F,c6,d6,rfl,_,G,c7,d7,rfl,_,H,c8,d8,rfl,_,J,c9,d9,rfl,_,K,c10,w,rfl,_,n,c11,y,rfl,_,o,c12,z,rfl,_,p,c13,A,rfl,_,q,e⟩:=h;subst e;obtain⟨v,W,L⟩:=y51 h0;obtain⟨a1,b1,M⟩:=y64 h1;obtain⟨a2,N⟩:=iQ (by kernel_rfl) h2;obtain⟨a3,O⟩:=iQ (by kernel_rfl) C;obtain⟨a4,P⟩:=Qv (by kernel_rfl) E;obtain⟨a5,R⟩:=iQ (by kernel_rfl) F;obtain⟨a6,S⟩:=iQ (by kernel_rfl) G;obtain⟨a7,T⟩:=iQ (by kernel_rfl) H;obtain⟨a8,U⟩:=iQ (by kernel_rfl) J;obtain⟨a9,V⟩:=iQ (by kernel_rfl) K;obtain⟨a,r⟩:=iQ (by kernel_rfl) n;obtain⟨d,j,s⟩:=lO1 (by kernel_rfl) o;obtain⟨f,⟨k,c12⟩,t⟩:=Tt (B:=fun _=>True) (c:=YT.g) (m:=3) (by kernel_rfl) (by kernel_rfl) (fun _ _ h=>tV2 h) (fun _=>rfl) p;obtain⟨i,⟨l,c13⟩,u⟩:=Tt (B:=fun x=>x.b) (c:=YW.g) (m:=2) (by kernel_rfl) (by kernel_rfl) (fun _ _ h=>y61 h) (fun _=>rfl) q;exact⟨⟨v,a1,a2,a3,a4,a5,a6,a7,a8,a9,a,d,f,i⟩,⟨rZ j,rZ k,rZ l,c13⟩,L.append (M.append (N.append (O.append (P.append (R.append (S.append (T.append (U.append (V.append (r.append (s.append (t.append (u.append .nil)))))))))))))⟩
def uC2 {D:Nat} {cs:aA AV} (h:nG Tryz.prog D 114 cs):∃x:YN,(fun _=>True) x/\LR (RC false) x.g cs:=by
 obtain⟨D,h⟩:=hJ Tryz.underlying114 h;obtain⟨c0,k,rfl,_,h0,c1,d1,rfl,_,h1,c2,l,rfl,_,h2,c3,m,rfl,_,b,e⟩:=h;subst e;obtain⟨a,j,c⟩:=y51 h0;obtain⟨a1,d⟩:=iQ (by kernel_rfl) h1;obtain⟨a2,b2,f⟩:=y51 h2;obtain⟨a3,b3,i⟩:=y51 b;exact⟨⟨a,a1,a2,a3⟩,trivial,c.append (d.append (f.append (i.append .nil)))⟩
def y27 {D:Nat} {cs:aA AV} (h:nG Tryz.prog D 27 cs):∃x:Y0,(fun x=>x.b) x/\LR (RC false) x.g cs:=by
 obtain⟨D,h⟩:=hJ Tryz.underlying27 h;obtain⟨c0,t,rfl,_,h0,c1,d1,rfl,_,h1,c2,u,rfl,_,h2,c3,v,rfl,_,j,c4,w,rfl,_,k,c5,y,rfl,_,l,e⟩:=h;subst e;obtain⟨a,d,n⟩:=lO1 (by kernel_rfl) h0;obtain⟨a1,o⟩:=Qv (by kernel_rfl) h1;obtain⟨a2,⟨b2,c2⟩,p⟩:=Tt (B:=fun x=>x.b) (c:=YJ.g) (m:=6) (by kernel_rfl) (by kernel_rfl) (fun _ _ h=>tU2 h) (fun _=>rfl) h2;obtain⟨a3,⟨b3,c3⟩,q⟩:=Tt (B:=fun x=>x.b) (c:=YM.g) (m:=22) (by kernel_rfl) (by kernel_rfl) (fun _ _ h=>y68 h) (fun _=>rfl) j;obtain⟨a4,⟨f,c4⟩,r⟩:=Tt (B:=fun _=>True) (c:=YN.g) (m:=7) (by kernel_rfl) (by kernel_rfl) (fun _ _ h=>uC2 h) (fun _=>rfl) k;obtain⟨a5,⟨i,c5⟩,s⟩:=Tt (B:=fun _=>True) (c:=YZ.g) (m:=2) (by kernel_rfl) (by kernel_rfl) (fun _ _ h=>y51 h) (fun _=>rfl) l;exact⟨⟨a,a1,a2,a3,a4,a5⟩,⟨rZ d,rZ b2,c2,rZ b3,c3,rZ f,rZ i⟩,n.append (o.append (p.append (q.append (r.append (s.append .nil)))))⟩
end Go.P
