import Derived.Test.YtolknogilcdomaaGreatPl
import Derived.Test.YtolknogilcdomaaGreatTb
import Derived.Test.YtolknogilcdomaaGreatRows
import Derived.KernelRfl
/- A text of the proof. -/
set_option linter.all false
set_option maxRecDepth 100000
set_option maxHeartbeats 2000000
namespace Go.P
open Go.Sim (kJ lP nY IFn mO AV vJ rU tK nM runP exec Ey)
open Go.Proofs
noncomputable section
def Vw {f e:Nat} (h:hW1 f e=true):(f=38/\e=7)\/(f=39/\e=2)\/(f=69/\e=3)\/(f=70/\e=3)\/(f=129/\e=2):=by
 unfold hW1 at h;simp only[fF3,iW]at h;obtain⟨h1,a⟩:=h;have a:=fY3 a;simp at h1;rcases h1 with rfl|rfl|rfl|rfl|rfl<;>simp[a]
def Vx {M:Mm} (b:∀e∈M,e.1=5):∀f xs v,oA f=false->B40 false f xs=some v->sB (TM M) f xs v:=by
 intro f xs v _ h;have a:∀f,f≠5->∀ys,(TM M).memo f ys=none:=fun f hf ys=>rU (fun e he h=>hf (h.symm.trans (b e he))) ys;unfold B40 at h;split at h;rename_i e rows;cases hc:(hW1 f e&&Nat.ble rows.length 1073741824)with
 |false=>rw[hc]at h;cases h
 |true=>
  rw[hc]at h;cases h;simp only[fF3]at hc;obtain⟨h1,h2⟩:=hc;have h2:=fK3 h2;rcases Vw h1 with⟨rfl,rfl⟩|⟨rfl,rfl⟩|⟨rfl,rfl⟩|⟨rfl,rfl⟩|⟨rfl,rfl⟩
  exact uA (show TM M 38=some (eP 94 7 56 [.int .i64 0,.int .i64 0,.int .i64 0,.int .i64 0,.int .i64 0,.int .i64 0,.int .i64 0])by kernel_rfl) (a _ (by decide)) h2;exact uA (show TM M 39=some (eP 36 2 16 [.int .i64 0,.int .i64 0])by kernel_rfl) (a _ (by decide)) h2;exact uA (show TM M 69=some (eP 87 3 24 [.int .i64 0,.int .i64 0,.int .i64 0])by kernel_rfl) (a _ (by decide)) h2;exact uA (show TM M 70=some (eP 128 3 24 [.int .i64 0,.int .i64 0,.bool false])by kernel_rfl) (a _ (by decide)) h2;exact uA (show TM M 129=some (eP 155 2 16 [.int .i64 0,.int .i64 0])by kernel_rfl) (a _ (by decide)) h2
 cases h;cases h
def aY2 (M:Mm):nV1 (TM M) oA Lz Rq As.run:=bI1 (cl:=clN) fun f p h=>by
 unfold clN at h
 cases hf207:Nat.beq f 207 with
 |true=>
  rw[hf207]at h
  cases h
  obtain rfl:=fY3 hf207
  exact⟨rfl,rfl,_,_,show TM M 207=some {eP 75 5 40 [.int .i64 0,.int .i64 0,.int .i64 0,.bool false,.int .i64 0]with pure:=false,frz:=Lz 207}by kernel_rfl⟩
 |false=>
 rw[hf207]at h
 cases hf208:Nat.beq f 208 with
 |true=>
  rw[hf208]at h
  cases h
  obtain rfl:=fY3 hf208
  exact⟨rfl,rfl,_,_,show TM M 208=some {eP 110 5 40 [.int .i64 0,.int .i64 0,.int .i64 0,.int .i64 0,.bool false]with pure:=false,frz:=Lz 208}by kernel_rfl⟩
 |false=>
 rw[hf208]at h
 cases hf209:Nat.beq f 209 with
 |true=>
  rw[hf209]at h
  cases h
  obtain rfl:=fY3 hf209
  exact⟨rfl,rfl,_,_,show TM M 209=some {eP 97 2 24 [(.string ⟨#[]⟩),.int .i64 0]with pure:=false,frz:=Lz 209}by kernel_rfl⟩
 |false=>
 rw[hf209]at h
 cases h
def Vy:nM Tryz.prog 8 [.agg (Jz 12 hY1.g)] (.v (.bool true)):=by
 refine Rp lX2 Zj (xs:=[.agg hY1.g]) ?_ (Yc (by kernel_rfl)) (by kernel_rfl);refine hF1 (NW:=As) (Vx (M:=[]) (fun _ h=>by cases h)) (aY2 []) (aX2 (M:=[]) (fun _ h=>by cases h)) 26 8 _ _ ?_;rw[show Od (B40 false) oA As Rq 26 8 _=_ from ok8 0 hY1,show F8 hY1=some true by kernel_rfl];rfl
def Sr:nM Tryz.prog 8 [.agg (Jz 12 Rr.g)] (.v (.bool true)):=by
 refine Rp lX2 Zj (xs:=[.agg Rr.g]) ?_ (Yc (by kernel_rfl)) (by kernel_rfl);refine hF1 (NW:=As) (Vx (M:=[]) (fun _ h=>by cases h)) (aY2 []) (aX2 (M:=[]) (fun _ h=>by cases h)) 26 8 _ _ ?_;rw[show Od (B40 false) oA As Rq 26 8 _=_ from ok8 0 Rr,show F8 Rr=some true by kernel_rfl];rfl
abbrev M2:Mm:=[(8,[.agg (Jz 12 hY1.g)],.v (.bool true)),(8,[.agg (Jz 12 Rr.g)],.v (.bool true))]
abbrev T2:mO:=⟨fun f=>(tl2[f]?).join,vJ M2⟩
def yV2:kJ Tryz.prog T2:=lP.tab (M:=M2) yU2 ⟨Vy,Sr,trivial⟩
def dD1:runP T2 (exec T2 300) 5 ix5 []=some (.v (.bool true)):=by kernel_rfl
def Ss:nM Tryz.prog 5 [] (.v (.bool true)):=Ey (fn:=ix5) yV2 Zj (by kernel_rfl) rfl rfl dD1
def aZ2:kJ Tryz.prog TBL:=lP.tab (M:=MK) lW2 ⟨Ss,trivial⟩
def tV1:∀f xs v,oA f=false->B40 true f xs=some v->sB TBL f xs v:=by
 intro f xs v hf h;by_cases a:xs=[]/\f=5;obtain⟨rfl,rfl⟩:=a;cases h;exact hS1 (fn:=ix5) (by kernel_rfl) rfl rfl rfl;refine Vx lF1 f xs v hf ?_;unfold B40 at h ⊢;split at h;exact h;cases hc:Nat.beq f 5 with
 |false=>rw[hc]at h;cases h
 |true=>exact(a ⟨rfl,fY3 hc⟩).elim
 cases h
end
end Go.P
namespace Go.P
open Go.Sim Go.Proofs
def y36 {D:Nat} {cs:aA AV} (h:nX Tryz.prog D 36 cs):∃x:YZ,(fun _=>True) x/\LR (RC false) x.g cs:=by
 obtain⟨D,h⟩:=iP Tryz.underlying36 h;obtain⟨c0,c,rfl,_,h0,c1,d1,rfl,_,h1,e⟩:=h;subst e;obtain⟨a0,a⟩:=jF (by kernel_rfl) h0;obtain⟨a1,b⟩:=jF (by kernel_rfl) h1;exact⟨⟨a0,a1⟩,trivial,a.append (b.append .nil)⟩
def y38 {D:Nat} {cs:aA AV} (h:nX Tryz.prog D 38 cs):∃x:YL,(fun _=>True) x/\LR (RC false) x.g cs:=by
 obtain⟨D,h⟩:=iP Tryz.underlying38 h;obtain⟨c0,c,rfl,_,h0,c1,d1,rfl,_,h1,e⟩:=h;subst e;obtain⟨a0,a⟩:=jF (by kernel_rfl) h0;obtain⟨a1,b⟩:=jF (by kernel_rfl) h1;exact⟨⟨a0,a1⟩,trivial,a.append (b.append .nil)⟩
def y87 {D:Nat} {cs:aA AV} (h:nX Tryz.prog D 87 cs):∃x:YF,(fun _=>True) x/\LR (RC false) x.g cs:=by
 obtain⟨D,h⟩:=iP Tryz.underlying87 h;obtain⟨c0,d,rfl,_,h0,c1,d1,rfl,_,h1,e⟩:=h;subst e;obtain⟨a0,c,a⟩:=y36 h0;obtain⟨a1,b⟩:=jF (by kernel_rfl) h1;exact⟨⟨a0,a1⟩,trivial,a.append (b.append .nil)⟩
def y41 {D:Nat} {cs:aA AV} (h:nX Tryz.prog D 41 cs):∃x:YJ,(fun x=>x.b) x/\LR (RC false) x.g cs:=by
 obtain⟨D,h⟩:=iP Tryz.underlying41 h;obtain⟨c0,l,rfl,_,h0,c1,d1,rfl,_,h1,c2,n,rfl,_,h2,c3,o,rfl,_,a,e⟩:=h;subst e;obtain⟨a0,k,d⟩:=y36 h0;obtain⟨a1,b1,f⟩:=oC1 (by kernel_rfl) h1;obtain⟨a2,b2,i⟩:=y38 h2;obtain⟨a3,⟨b3,c3⟩,j⟩:=Ya (B:=fun _=>True) (c:=YF.g) (m:=3) (by kernel_rfl) (by kernel_rfl) (fun _ _ h=>y87 h) (fun _=>rfl) a;exact⟨⟨a0,a1,a2,a3⟩,⟨sR b1,sR b3⟩,d.append (f.append (i.append (j.append .nil)))⟩
def y42 {D:Nat} {cs:aA AV} (h:nX Tryz.prog D 42 cs):∃x:Y6,True/\LR (RC false) x.g cs:=by
 obtain⟨D,rows,rfl,hl,h⟩:=nW2 (n:=6) (e:=3) (by kernel_rfl) h;obtain⟨d,r1,r2,r3,r4,r5,rfl⟩:=cT2 hl;obtain⟨a0,h0⟩:=jF (by kernel_rfl) (h d (by simp)).2;obtain⟨a1,h1⟩:=jF (by kernel_rfl) (h r1 (by simp)).2;obtain⟨a2,h2⟩:=jF (by kernel_rfl) (h r2 (by simp)).2;obtain⟨a3,a⟩:=jF (by kernel_rfl) (h r3 (by simp)).2;obtain⟨a4,b⟩:=jF (by kernel_rfl) (h r4 (by simp)).2;obtain⟨a5,c⟩:=jF (by kernel_rfl) (h r5 (by simp)).2;exact⟨⟨a0,a1,a2,a3,a4,a5⟩,trivial,h0.append (h1.append (h2.append (a.append (b.append (c.append .nil)))))⟩
def y44 {D:Nat} {cs:aA AV} (h:nX Tryz.prog D 44 cs):∃x:YX,(fun _=>True) x/\LR (RC false) x.g cs:=by
 obtain⟨D,h⟩:=iP Tryz.underlying44 h;obtain⟨c0,d,rfl,_,h0,c1,d1,rfl,_,h1,c2,f,rfl,_,h2,e⟩:=h;subst e;obtain⟨a0,a⟩:=jF (by kernel_rfl) h0;obtain⟨a1,b⟩:=jF (by kernel_rfl) h1;obtain⟨a2,b2,c⟩:=y42 h2;exact⟨⟨a0,a1,a2⟩,trivial,a.append (b.append (c.append .nil))⟩
def yW2 {D:Nat} {cs:aA AV} (h:nX Tryz.prog D 128 cs):∃x:YT,(fun _=>True) x/\LR (RC false) x.g cs:=by
 obtain⟨D,h⟩:=iP Tryz.underlying128 h;obtain⟨c0,d,rfl,_,h0,c1,d1,rfl,_,h1,c2,f,rfl,_,h2,e⟩:=h;subst e;obtain⟨a0,a⟩:=jF (by kernel_rfl) h0;obtain⟨a1,b⟩:=jF (by kernel_rfl) h1;obtain⟨a2,c⟩:=Rn (by kernel_rfl) h2;exact⟨⟨a0,a1,a2⟩,trivial,a.append (b.append (c.append .nil))⟩
def yX2 {D:Nat} {cs:aA AV} (h:nX Tryz.prog D 155 cs):∃x:YC,(fun _=>True) x/\LR (RC false) x.g cs:=by
 obtain⟨D,h⟩:=iP Tryz.underlying155 h;obtain⟨c0,c,rfl,_,h0,c1,d1,rfl,_,h1,e⟩:=h;subst e;obtain⟨a0,a⟩:=jF (by kernel_rfl) h0;obtain⟨a1,b⟩:=jF (by kernel_rfl) h1;exact⟨⟨a0,a1⟩,trivial,a.append (b.append .nil)⟩
def y66 {D:Nat} {cs:aA AV} (h:nX Tryz.prog D 66 cs):∃x:YA,(fun _=>True) x/\LR (RC false) x.g cs:=by
 obtain⟨D,h⟩:=iP Tryz.underlying66 h;obtain⟨c0,c,rfl,_,h0,c1,d1,rfl,_,h1,e⟩:=h;subst e;obtain⟨a0,a⟩:=jF (by kernel_rfl) h0;obtain⟨a1,b⟩:=jF (by kernel_rfl) h1;exact⟨⟨a0,a1⟩,trivial,a.append (b.append .nil)⟩
def y73 {D:Nat} {cs:aA AV} (h:nX Tryz.prog D 73 cs):∃x:YH,(fun _=>True) x/\LR (RC false) x.g cs:=by
 obtain⟨D,h⟩:=iP Tryz.underlying73 h;obtain⟨c0,d,rfl,_,h0,c1,d1,rfl,_,h1,c2,f,rfl,_,h2,e⟩:=h;subst e;obtain⟨a0,a⟩:=jF (by kernel_rfl) h0;obtain⟨a1,b⟩:=jF (by kernel_rfl) h1;obtain⟨a2,c⟩:=jF (by kernel_rfl) h2;exact⟨⟨a0,a1,a2⟩,trivial,a.append (b.append (c.append .nil))⟩
def y75 {D:Nat} {cs:aA AV} (h:nX Tryz.prog D 75 cs):∃x:YB,(fun _=>True) x/\LR (RC false) x.g cs:=by
 obtain⟨D,h⟩:=iP Tryz.underlying75 h;obtain⟨c0,f,rfl,_,h0,c1,d1,rfl,_,h1,c2,i,rfl,_,h2,e⟩:=h;subst e;obtain⟨a0,d,a⟩:=y73 h0;obtain⟨a1,b⟩:=Rn (by kernel_rfl) h1;obtain⟨a2,c⟩:=jF (by kernel_rfl) h2;exact⟨⟨a0,a1,a2⟩,trivial,a.append (b.append (c.append .nil))⟩
def yY2 {D:Nat} {cs:aA AV} (h:nX Tryz.prog D 110 cs):∃x:YD,(fun _=>True) x/\LR (RC false) x.g cs:=by
 obtain⟨D,h⟩:=iP Tryz.underlying110 h;obtain⟨c0,f,rfl,_,h0,c1,d1,rfl,_,h1,c2,i,rfl,_,h2,e⟩:=h;subst e;obtain⟨a0,d,a⟩:=y73 h0;obtain⟨a1,b⟩:=jF (by kernel_rfl) h1;obtain⟨a2,c⟩:=Rn (by kernel_rfl) h2;exact⟨⟨a0,a1,a2⟩,trivial,a.append (b.append (c.append .nil))⟩
def y97 {D:Nat} {cs:aA AV} (h:nX Tryz.prog D 97 cs):∃x:YY,(fun x=>x.b) x/\LR (RC false) x.g cs:=by
 obtain⟨D,h⟩:=iP Tryz.underlying97 h;obtain⟨c0,f,rfl,_,h0,c1,d1,rfl,_,h1,e⟩:=h;subst e;obtain⟨a0,a,c⟩:=oC1 (by kernel_rfl) h0;obtain⟨a1,d⟩:=jF (by kernel_rfl) h1;exact⟨⟨a0,a1⟩,⟨sR a⟩,c.append (d.append .nil)⟩
def y71 {D:Nat} {cs:aA AV} (h:nX Tryz.prog D 71 cs):∃x:YE,(fun x=>x.b) x/\LR (RC false) x.g cs:=by
 obtain⟨D,h⟩:=iP Tryz.underlying71 h;obtain⟨c0,H,rfl,_,h0,c1,d1,rfl,_,h1,c2,J,rfl,_,h2,c3,K,rfl,_,l,c4,L,rfl,_,n,c5,M,rfl,_,o,c6,N,rfl,_,p,c7,O,rfl,_,q,c8,P,rfl,_,r,c9,R,rfl,_,s,c10,k,rfl,_,d,e⟩:=h;subst e;obtain⟨a0,G,t⟩:=y36 h0;obtain⟨a1,u⟩:=jF (by kernel_rfl) h1;obtain⟨a2,b2,v⟩:=y66 h2;obtain⟨a3,⟨b3,c3⟩,w⟩:=Ya (B:=fun _=>True) (c:=YB.g) (m:=5) (by kernel_rfl) (by kernel_rfl) (fun _ _ h=>y75 h) (fun _=>rfl) l;obtain⟨a4,⟨i,c4⟩,y⟩:=Ya (B:=fun _=>True) (c:=YD.g) (m:=5) (by kernel_rfl) (by kernel_rfl) (fun _ _ h=>yY2 h) (fun _=>rfl) n;obtain⟨a5,z⟩:=jF (by kernel_rfl) o;obtain⟨a6,A⟩:=jF (by kernel_rfl) p;obtain⟨a7,C⟩:=jF (by kernel_rfl) q;obtain⟨a8,⟨j,c8⟩,E⟩:=Ya (B:=fun x=>x.b) (c:=YY.g) (m:=2) (by kernel_rfl) (by kernel_rfl) (fun _ _ h=>y97 h) (fun _=>rfl) r;obtain⟨a9,F⟩:=jF (by kernel_rfl) s;obtain⟨a,f⟩:=jF (by kernel_rfl) d;exact⟨⟨a0,a1,a2,a3,a4,a5,a6,a7,a8,a9,a⟩,⟨sR b3,sR i,sR j,c8⟩,t.append (u.append (v.append (w.append (y.append (z.append (A.append (C.append (E.append (F.append (f.append .nil))))))))))⟩
def yZ2 {D:Nat} {cs:aA AV} (h:nX Tryz.prog D 276 cs):∃x:YU,(fun _=>True) x/\LR (RC false) x.g cs:=by
 obtain⟨D,h⟩:=iP Tryz.underlying276 h;obtain⟨c0,i,rfl,_,h0,c1,d1,rfl,_,h1,c2,j,rfl,_,h2,c3,k,rfl,_,a,e⟩:=h;subst e;obtain⟨a0,b⟩:=jF (by kernel_rfl) h0;obtain⟨a1,c⟩:=jF (by kernel_rfl) h1;obtain⟨a2,d⟩:=jF (by kernel_rfl) h2;obtain⟨a3,f⟩:=jF (by kernel_rfl) a;exact⟨⟨a0,a1,a2,a3⟩,trivial,b.append (c.append (d.append (f.append .nil)))⟩
def y57 {D:Nat} {cs:aA AV} (h:nX Tryz.prog D 57 cs):∃x:YO,(fun x=>x.b) x/\LR (RC false) x.g cs:=by
 obtain⟨D,h⟩:=iP Tryz.underlying57 h;obtain⟨c0,i,rfl,_,h0,c1,d1,rfl,_,h1,e⟩:=h;subst e;obtain⟨a0,⟨a,c0⟩,d⟩:=Ya (B:=fun x=>x.b) (c:=YE.g) (m:=13) (by kernel_rfl) (by kernel_rfl) (fun _ _ h=>y71 h) (fun _=>rfl) h0;obtain⟨a1,⟨b1,c1⟩,f⟩:=Ya (B:=fun _=>True) (c:=YU.g) (m:=4) (by kernel_rfl) (by kernel_rfl) (fun _ _ h=>yZ2 h) (fun _=>rfl) h1;exact⟨⟨a0,a1⟩,⟨sR a,c0,sR b1⟩,d.append (f.append .nil)⟩
def y52 {D:Nat} {cs:aA AV} (h:nX Tryz.prog D 52 cs):∃x:YW,(fun x=>x.b) x/\LR (RC false) x.g cs:=by
 obtain⟨D,h⟩:=iP Tryz.underlying52 h;obtain⟨c0,i,rfl,_,h0,c1,d1,rfl,_,h1,e⟩:=h;subst e;obtain⟨a0,⟨a,c0⟩,d⟩:=Ya (B:=fun _=>True) (c:=YC.g) (m:=2) (by kernel_rfl) (by kernel_rfl) (fun _ _ h=>yX2 h) (fun _=>rfl) h0;obtain⟨a1,⟨b1,c1⟩,f⟩:=Ya (B:=fun x=>x.b) (c:=YO.g) (m:=2) (by kernel_rfl) (by kernel_rfl) (fun _ _ h=>y57 h) (fun _=>rfl) h1;exact⟨⟨a0,a1⟩,⟨sR a,sR b1,c1⟩,d.append (f.append .nil)⟩
def y48 {D:Nat} {cs:aA AV} (h:nX Tryz.prog D 48 cs):∃x:YM,(fun x=>x.b) x/\LR (RC false) x.g cs:=by
 obtain⟨D,h⟩:=iP Tryz.underlying48 h;obtain⟨c0,W,rfl,_,h0,c1,d1,rfl,_,h1,c2,X,rfl,_,h2,c3,Y,rfl,_,A,c4,Z,rfl,_,C,c5,d5,rfl,_,E,c6,d6,rfl,_,F,c7,d7,rfl,_,G,c8,d8,rfl,_,H,c9,d9,rfl,_,J,c10,v,rfl,_,n,c11,w,rfl,_,o,c12,y,rfl,_,p,c13,z,rfl,_,q,e⟩:=h;subst e;obtain⟨a0,V,K⟩:=y36 h0;obtain⟨a1,b1,L⟩:=y44 h1;obtain⟨a2,M⟩:=jF (by kernel_rfl) h2;obtain⟨a3,N⟩:=jF (by kernel_rfl) A;obtain⟨a4,O⟩:=Rn (by kernel_rfl) C;obtain⟨a5,P⟩:=jF (by kernel_rfl) E;obtain⟨a6,R⟩:=jF (by kernel_rfl) F;obtain⟨a7,S⟩:=jF (by kernel_rfl) G;obtain⟨a8,T⟩:=jF (by kernel_rfl) H;obtain⟨a9,U⟩:=jF (by kernel_rfl) J;obtain⟨a,r⟩:=jF (by kernel_rfl) n;obtain⟨d,j,s⟩:=oC1 (by kernel_rfl) o;obtain⟨f,⟨k,c12⟩,t⟩:=Ya (B:=fun _=>True) (c:=YT.g) (m:=3) (by kernel_rfl) (by kernel_rfl) (fun _ _ h=>yW2 h) (fun _=>rfl) p;obtain⟨i,⟨l,c13⟩,u⟩:=Ya (B:=fun x=>x.b) (c:=YW.g) (m:=2) (by kernel_rfl) (by kernel_rfl) (fun _ _ h=>y52 h) (fun _=>rfl) q;exact⟨⟨a0,a1,a2,a3,a4,a5,a6,a7,a8,a9,a,d,f,i⟩,⟨sR j,sR k,sR l,c13⟩,K.append (L.append (M.append (N.append (O.append (P.append (R.append (S.append (T.append (U.append (r.append (s.append (t.append (u.append .nil)))))))))))))⟩
def y94 {D:Nat} {cs:aA AV} (h:nX Tryz.prog D 94 cs):∃x:YN,(fun _=>True) x/\LR (RC false) x.g cs:=by
 obtain⟨D,h⟩:=iP Tryz.underlying94 h;obtain⟨c0,j,rfl,_,h0,c1,d1,rfl,_,h1,c2,k,rfl,_,h2,c3,l,rfl,_,a,e⟩:=h;subst e;obtain⟨a0,i,b⟩:=y36 h0;obtain⟨a1,c⟩:=jF (by kernel_rfl) h1;obtain⟨a2,b2,d⟩:=y36 h2;obtain⟨a3,b3,f⟩:=y36 a;exact⟨⟨a0,a1,a2,a3⟩,trivial,b.append (c.append (d.append (f.append .nil)))⟩
def y27 {D:Nat} {cs:aA AV} (h:nX Tryz.prog D 27 cs):∃x:Y0,(fun x=>x.b) x/\LR (RC false) x.g cs:=by
 obtain⟨D,h⟩:=iP Tryz.underlying27 h;obtain⟨c0,s,rfl,_,h0,c1,d1,rfl,_,h1,c2,t,rfl,_,h2,c3,u,rfl,_,i,c4,v,rfl,_,j,c5,w,rfl,_,k,e⟩:=h;subst e;obtain⟨a0,a,l⟩:=oC1 (by kernel_rfl) h0;obtain⟨a1,n⟩:=Rn (by kernel_rfl) h1;obtain⟨a2,⟨b2,c2⟩,o⟩:=Ya (B:=fun x=>x.b) (c:=YJ.g) (m:=6) (by kernel_rfl) (by kernel_rfl) (fun _ _ h=>y41 h) (fun _=>rfl) h2;obtain⟨a3,⟨b3,c3⟩,p⟩:=Ya (B:=fun x=>x.b) (c:=YM.g) (m:=22) (by kernel_rfl) (by kernel_rfl) (fun _ _ h=>y48 h) (fun _=>rfl) i;obtain⟨a4,⟨d,c4⟩,q⟩:=Ya (B:=fun _=>True) (c:=YN.g) (m:=7) (by kernel_rfl) (by kernel_rfl) (fun _ _ h=>y94 h) (fun _=>rfl) j;obtain⟨a5,⟨f,c5⟩,r⟩:=Ya (B:=fun _=>True) (c:=YZ.g) (m:=2) (by kernel_rfl) (by kernel_rfl) (fun _ _ h=>y36 h) (fun _=>rfl) k;exact⟨⟨a0,a1,a2,a3,a4,a5⟩,⟨sR a,sR b2,c2,sR b3,c3,sR d,sR f⟩,l.append (n.append (o.append (p.append (q.append (r.append .nil)))))⟩
end Go.P
