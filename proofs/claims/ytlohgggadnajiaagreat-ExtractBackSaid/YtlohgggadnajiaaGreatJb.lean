import Derived.Test.YtlohgggadnajiaaGreatPl
import Derived.Test.YtlohgggadnajiaaGreatTb
import Derived.Test.YtlohgggadnajiaaGreatRows
import Derived.KernelRfl
/- A text of the proof. -/
set_option linter.all false
set_option maxRecDepth 100000
set_option maxHeartbeats 2000000
namespace Go.P
open Go.Sim (kN lO oC IFn lI AV vM rY tR nN runP exec Fe)
open Go.Proofs
noncomputable section
def Uq {f e:Nat} (h:fT1 f e=true):(f=144/\e=7)\/(f=145/\e=2)\/(f=207/\e=3)\/(f=208/\e=3)\/(f=254/\e=2):=by
 unfold fT1 at h;simp only[bF3,iK]at h;obtain⟨h1,a⟩:=h;have a:=bV3 a;simp at h1;rcases h1 with rfl|rfl|rfl|rfl|rfl<;>simp[a]
def Ur {M:Mm} (b:∀e∈M,e.1=6):∀f xs v,oF f=false->Zy false f xs=some v->sJ (TM M) f xs v:=by
 intro f xs v _ h;have a:∀f,f≠6->∀ys,(TM M).memo f ys=none:=fun f hf ys=>rY (fun e he h=>hf ((h.symm.trans (b e he)))) ys;unfold Zy at h;split at h;rename_i e rows;cases hc:(fT1 f e&&Nat.ble rows.length 1073741824)with
 |false=>rw[hc]at h;cases h
 |true=>
  rw[hc]at h;cases h;simp only[bF3]at hc;obtain⟨h1,h2⟩:=hc;have h2:=bP3 h2;rcases Uq h1 with⟨rfl,rfl⟩|⟨rfl,rfl⟩|⟨rfl,rfl⟩|⟨rfl,rfl⟩|⟨rfl,rfl⟩
  exact uF (show TM M 144=some (eZ 113 7 56 [(.int .i64 0),(.int .i64 0),(.int .i64 0),(.int .i64 0),(.int .i64 0),(.int .i64 0),(.int .i64 0)])by kernel_rfl) (a _ (by decide)) h2;exact uF (show TM M 145=some (eZ 38 2 16 [(.int .i64 0),(.int .i64 0)])by kernel_rfl) (a _ (by decide)) h2;exact uF (show TM M 207=some (eZ 106 3 24 [(.int .i64 0),(.int .i64 0),(.int .i64 0)])by kernel_rfl) (a _ (by decide)) h2;exact uF (show TM M 208=some (eZ 157 3 24 [(.int .i64 0),(.int .i64 0),(.bool false)])by kernel_rfl) (a _ (by decide)) h2;exact uF (show TM M 254=some (eZ 184 2 16 [(.int .i64 0),(.int .i64 0)])by kernel_rfl) (a _ (by decide)) h2
 cases h;cases h
def yW1 (M:Mm):mK1 (TM M) oF Ls Qo Ap.run:=Zw (cl:=clN) fun f p h=>by
 unfold clN at h
 cases hf244:Nat.beq f 244 with
 |true=>
  rw[hf244]at h
  cases h
  obtain rfl:=bV3 hf244
  exact⟨rfl,rfl,_,_,show TM M 244=some {eZ 87 5 40 [(.int .i64 0),(.int .i64 0),(.int .i64 0),(.bool false),(.int .i64 0)]with pure:=false,frz:=Ls 244}by kernel_rfl⟩
 |false=>
 rw[hf244]at h
 cases hf245:Nat.beq f 245 with
 |true=>
  rw[hf245]at h
  cases h
  obtain rfl:=bV3 hf245
  exact⟨rfl,rfl,_,_,show TM M 245=some {eZ 96 5 40 [(.int .i64 0),(.int .i64 0),(.int .i64 0),(.int .i64 0),(.bool false)]with pure:=false,frz:=Ls 245}by kernel_rfl⟩
 |false=>
 rw[hf245]at h
 cases hf246:Nat.beq f 246 with
 |true=>
  rw[hf246]at h
  cases h
  obtain rfl:=bV3 hf246
  exact⟨rfl,rfl,_,_,show TM M 246=some {eZ 131 2 24 [(.string ⟨#[]⟩),(.int .i64 0)]with pure:=false,frz:=Ls 246}by kernel_rfl⟩
 |false=>
 rw[hf246]at h
 cases h
def Us:nN Tryz.prog 7 [.agg (Ju 12 fU1.g)] (.v (.bool true)):=by
 refine Qn jH2 Xy (xs:=[.agg fU1.g]) ?_ (Wt (by kernel_rfl)) (by kernel_rfl);refine fH1 (NW:=Ap) (Ur (M:=[]) (fun _ h=>by cases h)) (yW1 []) (yV1 (M:=[]) (fun _ h=>by cases h)) 26 7 _ _ ?_;rw[show Od (Zy false) oF Ap Qo 26 7 _=_ from ok7 0 fU1,show F7 fU1=some true by kernel_rfl];rfl
def Rl:nN Tryz.prog 7 [.agg (Ju 12 Qp.g)] (.v (.bool true)):=by
 refine Qn jH2 Xy (xs:=[.agg Qp.g]) ?_ (Wt (by kernel_rfl)) (by kernel_rfl);refine fH1 (NW:=Ap) (Ur (M:=[]) (fun _ h=>by cases h)) (yW1 []) (yV1 (M:=[]) (fun _ h=>by cases h)) 26 7 _ _ ?_;rw[show Od (Zy false) oF Ap Qo 26 7 _=_ from ok7 0 Qp,show F7 Qp=some true by kernel_rfl];rfl
abbrev M2:Mm:=[(7,[.agg (Ju 12 fU1.g)],.v (.bool true)),(7,[.agg (Ju 12 Qp.g)],.v (.bool true))]
abbrev T2:lI:=⟨fun f=>(tl2[f]?).join,vM M2⟩
def vY2:kN Tryz.prog T2:=lO.tab (M:=M2) vX2 ⟨Us,Rl,trivial⟩
def bK1:runP T2 (exec T2 300) 6 ix6 []=some (.v (.bool true)):=by kernel_rfl
def Rm:nN Tryz.prog 6 [] (.v (.bool true)):=Fe (fn:=ix6) vY2 Xy (by kernel_rfl) rfl rfl bK1
def yX1:kN Tryz.prog TBL:=lO.tab (M:=MK) jG2 ⟨Rm,trivial⟩
def sH1:∀f xs v,oF f=false->Zy true f xs=some v->sJ TBL f xs v:=by
 intro f xs v hf h;by_cases a:xs=[]/\f=6;obtain⟨rfl,rfl⟩:=a;cases h;exact fQ1 (fn:=ix6) (by kernel_rfl) rfl rfl rfl;refine Ur jW1 f xs v hf ?_;unfold Zy at h ⊢;split at h;exact h;cases hc:Nat.beq f 6 with
 |false=>rw[hc]at h;cases h
 |true=>exact(a ⟨rfl,bV3 hc⟩).elim
 cases h
end
end Go.P
namespace Go.P
open Go.Sim Go.Proofs
def y38 {D:Nat} {cs:aA AV} (h:oB Tryz.prog D 38 cs):∃x:YZ,(fun _=>True) x/\LR (RC false) x.g cs:=by
 obtain⟨D,h⟩:=iX Tryz.underlying38 h;obtain⟨c0,c,rfl,_,h0,c1,d1,rfl,_,h1,e⟩:=h;subst e;obtain⟨a0,a⟩:=jN (by kernel_rfl) h0;obtain⟨a1,b⟩:=jN (by kernel_rfl) h1;exact⟨⟨a0,a1⟩,trivial,(a.append (b.append .nil))⟩
def y29 {D:Nat} {cs:aA AV} (h:oB Tryz.prog D 29 cs):∃x:YL,(fun _=>True) x/\LR (RC false) x.g cs:=by
 obtain⟨D,h⟩:=iX Tryz.underlying29 h;obtain⟨c0,c,rfl,_,h0,c1,d1,rfl,_,h1,e⟩:=h;subst e;obtain⟨a0,a⟩:=jN (by kernel_rfl) h0;obtain⟨a1,b⟩:=jN (by kernel_rfl) h1;exact⟨⟨a0,a1⟩,trivial,(a.append (b.append .nil))⟩
def vZ2 {D:Nat} {cs:aA AV} (h:oB Tryz.prog D 106 cs):∃x:YF,(fun _=>True) x/\LR (RC false) x.g cs:=by
 obtain⟨D,h⟩:=iX Tryz.underlying106 h;obtain⟨c0,d,rfl,_,h0,c1,d1,rfl,_,h1,e⟩:=h;subst e;obtain⟨a0,c,a⟩:=y38 h0;obtain⟨a1,b⟩:=jN (by kernel_rfl) h1;exact⟨⟨a0,a1⟩,trivial,(a.append (b.append .nil))⟩
def y60 {D:Nat} {cs:aA AV} (h:oB Tryz.prog D 60 cs):∃x:YJ,(fun x=>x.b) x/\LR (RC false) x.g cs:=by
 obtain⟨D,h⟩:=iX Tryz.underlying60 h;obtain⟨c0,l,rfl,_,h0,c1,d1,rfl,_,h1,c2,n,rfl,_,h2,c3,o,rfl,_,a,e⟩:=h;subst e;obtain⟨a0,k,d⟩:=y38 h0;obtain⟨a1,b1,f⟩:=mR1 (by kernel_rfl) h1;obtain⟨a2,b2,i⟩:=y29 h2;obtain⟨a3,⟨b3,c3⟩,j⟩:=Wr (B:=fun _=>True) (c:=YF.g) (m:=3) (by kernel_rfl) (by kernel_rfl) (fun _ _ h=>vZ2 h) (fun _=>rfl) a;exact⟨⟨a0,a1,a2,a3⟩,⟨tA b1,tA b3⟩,(d.append (f.append (i.append (j.append .nil))))⟩
def y39 {D:Nat} {cs:aA AV} (h:oB Tryz.prog D 39 cs):∃x:Y6,True/\LR (RC false) x.g cs:=by
 obtain⟨D,rows,rfl,hl,h⟩:=kX2 (n:=6) (e:=3) (by kernel_rfl) h;obtain⟨d,r1,r2,r3,r4,r5,rfl⟩:=aI2 hl;obtain⟨a0,h0⟩:=jN (by kernel_rfl) (h d (by simp)).2;obtain⟨a1,h1⟩:=jN (by kernel_rfl) (h r1 (by simp)).2;obtain⟨a2,h2⟩:=jN (by kernel_rfl) (h r2 (by simp)).2;obtain⟨a3,a⟩:=jN (by kernel_rfl) (h r3 (by simp)).2;obtain⟨a4,b⟩:=jN (by kernel_rfl) (h r4 (by simp)).2;obtain⟨a5,c⟩:=jN (by kernel_rfl) (h r5 (by simp)).2;exact⟨⟨a0,a1,a2,a3,a4,a5⟩,trivial,(h0.append (h1.append (h2.append (a.append (b.append (c.append .nil))))))⟩
def y41 {D:Nat} {cs:aA AV} (h:oB Tryz.prog D 41 cs):∃x:YX,(fun _=>True) x/\LR (RC false) x.g cs:=by
 obtain⟨D,h⟩:=iX Tryz.underlying41 h;obtain⟨c0,d,rfl,_,h0,c1,d1,rfl,_,h1,c2,f,rfl,_,h2,e⟩:=h;subst e;obtain⟨a0,a⟩:=jN (by kernel_rfl) h0;obtain⟨a1,b⟩:=jN (by kernel_rfl) h1;obtain⟨a2,b2,c⟩:=y39 h2;exact⟨⟨a0,a1,a2⟩,trivial,(a.append (b.append (c.append .nil)))⟩
def wA2 {D:Nat} {cs:aA AV} (h:oB Tryz.prog D 157 cs):∃x:YT,(fun _=>True) x/\LR (RC false) x.g cs:=by
 obtain⟨D,h⟩:=iX Tryz.underlying157 h;obtain⟨c0,d,rfl,_,h0,c1,d1,rfl,_,h1,c2,f,rfl,_,h2,e⟩:=h;subst e;obtain⟨a0,a⟩:=jN (by kernel_rfl) h0;obtain⟨a1,b⟩:=jN (by kernel_rfl) h1;obtain⟨a2,c⟩:=Ql (by kernel_rfl) h2;exact⟨⟨a0,a1,a2⟩,trivial,(a.append (b.append (c.append .nil)))⟩
def wB2 {D:Nat} {cs:aA AV} (h:oB Tryz.prog D 184 cs):∃x:YC,(fun _=>True) x/\LR (RC false) x.g cs:=by
 obtain⟨D,h⟩:=iX Tryz.underlying184 h;obtain⟨c0,c,rfl,_,h0,c1,d1,rfl,_,h1,e⟩:=h;subst e;obtain⟨a0,a⟩:=jN (by kernel_rfl) h0;obtain⟨a1,b⟩:=jN (by kernel_rfl) h1;exact⟨⟨a0,a1⟩,trivial,(a.append (b.append .nil))⟩
def y80 {D:Nat} {cs:aA AV} (h:oB Tryz.prog D 80 cs):∃x:YA,(fun _=>True) x/\LR (RC false) x.g cs:=by
 obtain⟨D,h⟩:=iX Tryz.underlying80 h;obtain⟨c0,c,rfl,_,h0,c1,d1,rfl,_,h1,e⟩:=h;subst e;obtain⟨a0,a⟩:=jN (by kernel_rfl) h0;obtain⟨a1,b⟩:=jN (by kernel_rfl) h1;exact⟨⟨a0,a1⟩,trivial,(a.append (b.append .nil))⟩
def y47 {D:Nat} {cs:aA AV} (h:oB Tryz.prog D 47 cs):∃x:YH,(fun _=>True) x/\LR (RC false) x.g cs:=by
 obtain⟨D,h⟩:=iX Tryz.underlying47 h;obtain⟨c0,d,rfl,_,h0,c1,d1,rfl,_,h1,c2,f,rfl,_,h2,e⟩:=h;subst e;obtain⟨a0,a⟩:=jN (by kernel_rfl) h0;obtain⟨a1,b⟩:=jN (by kernel_rfl) h1;obtain⟨a2,c⟩:=jN (by kernel_rfl) h2;exact⟨⟨a0,a1,a2⟩,trivial,(a.append (b.append (c.append .nil)))⟩
def y87 {D:Nat} {cs:aA AV} (h:oB Tryz.prog D 87 cs):∃x:YB,(fun _=>True) x/\LR (RC false) x.g cs:=by
 obtain⟨D,h⟩:=iX Tryz.underlying87 h;obtain⟨c0,f,rfl,_,h0,c1,d1,rfl,_,h1,c2,i,rfl,_,h2,e⟩:=h;subst e;obtain⟨a0,d,a⟩:=y47 h0;obtain⟨a1,b⟩:=Ql (by kernel_rfl) h1;obtain⟨a2,c⟩:=jN (by kernel_rfl) h2;exact⟨⟨a0,a1,a2⟩,trivial,(a.append (b.append (c.append .nil)))⟩
def y96 {D:Nat} {cs:aA AV} (h:oB Tryz.prog D 96 cs):∃x:YD,(fun _=>True) x/\LR (RC false) x.g cs:=by
 obtain⟨D,h⟩:=iX Tryz.underlying96 h;obtain⟨c0,f,rfl,_,h0,c1,d1,rfl,_,h1,c2,i,rfl,_,h2,e⟩:=h;subst e;obtain⟨a0,d,a⟩:=y47 h0;obtain⟨a1,b⟩:=jN (by kernel_rfl) h1;obtain⟨a2,c⟩:=Ql (by kernel_rfl) h2;exact⟨⟨a0,a1,a2⟩,trivial,(a.append (b.append (c.append .nil)))⟩
def wC2 {D:Nat} {cs:aA AV} (h:oB Tryz.prog D 131 cs):∃x:YY,(fun x=>x.b) x/\LR (RC false) x.g cs:=by
 obtain⟨D,h⟩:=iX Tryz.underlying131 h;obtain⟨c0,f,rfl,_,h0,c1,d1,rfl,_,h1,e⟩:=h;subst e;obtain⟨a0,a,c⟩:=mR1 (by kernel_rfl) h0;obtain⟨a1,d⟩:=jN (by kernel_rfl) h1;exact⟨⟨a0,a1⟩,⟨tA a⟩,(c.append (d.append .nil))⟩
def y85 {D:Nat} {cs:aA AV} (h:oB Tryz.prog D 85 cs):∃x:YE,(fun x=>x.b) x/\LR (RC false) x.g cs:=by
 obtain⟨D,h⟩:=iX Tryz.underlying85 h;obtain⟨c0,H,rfl,_,h0,c1,d1,rfl,_,h1,c2,J,rfl,_,h2,c3,K,rfl,_,l,c4,L,rfl,_,n,c5,M,rfl,_,o,c6,N,rfl,_,p,c7,O,rfl,_,q,c8,P,rfl,_,r,c9,R,rfl,_,s,c10,k,rfl,_,d,e⟩:=h;subst e;obtain⟨a0,G,t⟩:=y38 h0;obtain⟨a1,u⟩:=jN (by kernel_rfl) h1;obtain⟨a2,b2,v⟩:=y80 h2;obtain⟨a3,⟨b3,c3⟩,w⟩:=Wr (B:=fun _=>True) (c:=YB.g) (m:=5) (by kernel_rfl) (by kernel_rfl) (fun _ _ h=>y87 h) (fun _=>rfl) l;obtain⟨a4,⟨i,c4⟩,y⟩:=Wr (B:=fun _=>True) (c:=YD.g) (m:=5) (by kernel_rfl) (by kernel_rfl) (fun _ _ h=>y96 h) (fun _=>rfl) n;obtain⟨a5,z⟩:=jN (by kernel_rfl) o;obtain⟨a6,A⟩:=jN (by kernel_rfl) p;obtain⟨a7,C⟩:=jN (by kernel_rfl) q;obtain⟨a8,⟨j,c8⟩,E⟩:=Wr (B:=fun x=>x.b) (c:=YY.g) (m:=2) (by kernel_rfl) (by kernel_rfl) (fun _ _ h=>wC2 h) (fun _=>rfl) r;obtain⟨a9,F⟩:=jN (by kernel_rfl) s;obtain⟨a,f⟩:=jN (by kernel_rfl) d;exact⟨⟨a0,a1,a2,a3,a4,a5,a6,a7,a8,a9,a⟩,⟨tA b3,tA i,tA j,c8⟩,(t.append (u.append (v.append (w.append (y.append (z.append (A.append (C.append (E.append (F.append (f.append .nil)))))))))))⟩
def wD2 {D:Nat} {cs:aA AV} (h:oB Tryz.prog D 332 cs):∃x:YU,(fun _=>True) x/\LR (RC false) x.g cs:=by
 obtain⟨D,h⟩:=iX Tryz.underlying332 h;obtain⟨c0,i,rfl,_,h0,c1,d1,rfl,_,h1,c2,j,rfl,_,h2,c3,k,rfl,_,a,e⟩:=h;subst e;obtain⟨a0,b⟩:=jN (by kernel_rfl) h0;obtain⟨a1,c⟩:=jN (by kernel_rfl) h1;obtain⟨a2,d⟩:=jN (by kernel_rfl) h2;obtain⟨a3,f⟩:=jN (by kernel_rfl) a;exact⟨⟨a0,a1,a2,a3⟩,trivial,(b.append (c.append (d.append (f.append .nil))))⟩
def y69 {D:Nat} {cs:aA AV} (h:oB Tryz.prog D 69 cs):∃x:YO,(fun x=>x.b) x/\LR (RC false) x.g cs:=by
 obtain⟨D,h⟩:=iX Tryz.underlying69 h;obtain⟨c0,i,rfl,_,h0,c1,d1,rfl,_,h1,e⟩:=h;subst e;obtain⟨a0,⟨a,c0⟩,d⟩:=Wr (B:=fun x=>x.b) (c:=YE.g) (m:=13) (by kernel_rfl) (by kernel_rfl) (fun _ _ h=>y85 h) (fun _=>rfl) h0;obtain⟨a1,⟨b1,c1⟩,f⟩:=Wr (B:=fun _=>True) (c:=YU.g) (m:=4) (by kernel_rfl) (by kernel_rfl) (fun _ _ h=>wD2 h) (fun _=>rfl) h1;exact⟨⟨a0,a1⟩,⟨tA a,c0,tA b1⟩,(d.append (f.append .nil))⟩
def y64 {D:Nat} {cs:aA AV} (h:oB Tryz.prog D 64 cs):∃x:YW,(fun x=>x.b) x/\LR (RC false) x.g cs:=by
 obtain⟨D,h⟩:=iX Tryz.underlying64 h;obtain⟨c0,i,rfl,_,h0,c1,d1,rfl,_,h1,e⟩:=h;subst e;obtain⟨a0,⟨a,c0⟩,d⟩:=Wr (B:=fun _=>True) (c:=YC.g) (m:=2) (by kernel_rfl) (by kernel_rfl) (fun _ _ h=>wB2 h) (fun _=>rfl) h0;obtain⟨a1,⟨b1,c1⟩,f⟩:=Wr (B:=fun x=>x.b) (c:=YO.g) (m:=2) (by kernel_rfl) (by kernel_rfl) (fun _ _ h=>y69 h) (fun _=>rfl) h1;exact⟨⟨a0,a1⟩,⟨tA a,tA b1,c1⟩,(d.append (f.append .nil))⟩
def y45 {D:Nat} {cs:aA AV} (h:oB Tryz.prog D 45 cs):∃x:YM,(fun x=>x.b) x/\LR (RC false) x.g cs:=by
 obtain⟨D,h⟩:=iX Tryz.underlying45 h;obtain⟨c0,W,rfl,_,h0,c1,d1,rfl,_,h1,c2,X,rfl,_,h2,c3,Y,rfl,_,A,c4,Z,rfl,_,C,c5,d5,rfl,_,E,c6,d6,rfl,_,F,c7,d7,rfl,_,G,c8,d8,rfl,_,H,c9,d9,rfl,_,J,c10,v,rfl,_,n,c11,w,rfl,_,o,c12,y,rfl,_,p,c13,z,rfl,_,q,e⟩:=h;subst e;obtain⟨a0,V,K⟩:=y38 h0;obtain⟨a1,b1,L⟩:=y41 h1;obtain⟨a2,M⟩:=jN (by kernel_rfl) h2;obtain⟨a3,N⟩:=jN (by kernel_rfl) A;obtain⟨a4,O⟩:=Ql (by kernel_rfl) C;obtain⟨a5,P⟩:=jN (by kernel_rfl) E;obtain⟨a6,R⟩:=jN (by kernel_rfl) F;obtain⟨a7,S⟩:=jN (by kernel_rfl) G;obtain⟨a8,T⟩:=jN (by kernel_rfl) H;obtain⟨a9,U⟩:=jN (by kernel_rfl) J;obtain⟨a,r⟩:=jN (by kernel_rfl) n;obtain⟨d,j,s⟩:=mR1 (by kernel_rfl) o;obtain⟨f,⟨k,c12⟩,t⟩:=Wr (B:=fun _=>True) (c:=YT.g) (m:=3) (by kernel_rfl) (by kernel_rfl) (fun _ _ h=>wA2 h) (fun _=>rfl) p;obtain⟨i,⟨l,c13⟩,u⟩:=Wr (B:=fun x=>x.b) (c:=YW.g) (m:=2) (by kernel_rfl) (by kernel_rfl) (fun _ _ h=>y64 h) (fun _=>rfl) q;exact⟨⟨a0,a1,a2,a3,a4,a5,a6,a7,a8,a9,a,d,f,i⟩,⟨tA j,tA k,tA l,c13⟩,(K.append (L.append (M.append (N.append (O.append (P.append (R.append (S.append (T.append (U.append (r.append (s.append (t.append (u.append .nil))))))))))))))⟩
def wE2 {D:Nat} {cs:aA AV} (h:oB Tryz.prog D 113 cs):∃x:YN,(fun _=>True) x/\LR (RC false) x.g cs:=by
 obtain⟨D,h⟩:=iX Tryz.underlying113 h;obtain⟨c0,j,rfl,_,h0,c1,d1,rfl,_,h1,c2,k,rfl,_,h2,c3,l,rfl,_,a,e⟩:=h;subst e;obtain⟨a0,i,b⟩:=y38 h0;obtain⟨a1,c⟩:=jN (by kernel_rfl) h1;obtain⟨a2,b2,d⟩:=y38 h2;obtain⟨a3,b3,f⟩:=y38 a;exact⟨⟨a0,a1,a2,a3⟩,trivial,(b.append (c.append (d.append (f.append .nil))))⟩
def y27 {D:Nat} {cs:aA AV} (h:oB Tryz.prog D 27 cs):∃x:Y0,(fun x=>x.b) x/\LR (RC false) x.g cs:=by
 obtain⟨D,h⟩:=iX Tryz.underlying27 h;obtain⟨c0,s,rfl,_,h0,c1,d1,rfl,_,h1,c2,t,rfl,_,h2,c3,u,rfl,_,i,c4,v,rfl,_,j,c5,w,rfl,_,k,e⟩:=h;subst e;obtain⟨a0,a,l⟩:=mR1 (by kernel_rfl) h0;obtain⟨a1,n⟩:=Ql (by kernel_rfl) h1;obtain⟨a2,⟨b2,c2⟩,o⟩:=Wr (B:=fun x=>x.b) (c:=YJ.g) (m:=6) (by kernel_rfl) (by kernel_rfl) (fun _ _ h=>y60 h) (fun _=>rfl) h2;obtain⟨a3,⟨b3,c3⟩,p⟩:=Wr (B:=fun x=>x.b) (c:=YM.g) (m:=22) (by kernel_rfl) (by kernel_rfl) (fun _ _ h=>y45 h) (fun _=>rfl) i;obtain⟨a4,⟨d,c4⟩,q⟩:=Wr (B:=fun _=>True) (c:=YN.g) (m:=7) (by kernel_rfl) (by kernel_rfl) (fun _ _ h=>wE2 h) (fun _=>rfl) j;obtain⟨a5,⟨f,c5⟩,r⟩:=Wr (B:=fun _=>True) (c:=YZ.g) (m:=2) (by kernel_rfl) (by kernel_rfl) (fun _ _ h=>y38 h) (fun _=>rfl) k;exact⟨⟨a0,a1,a2,a3,a4,a5⟩,⟨tA a,tA b2,c2,tA b3,c3,tA d,tA f⟩,(l.append (n.append (o.append (p.append (q.append (r.append .nil))))))⟩
end Go.P
