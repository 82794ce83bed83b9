import Derived.Test.YtlmhifhgadmigaaGreatPl
import Derived.Test.YtlmhifhgadmigaaGreatTb
import Derived.Test.YtlmhifhgadmigaaGreatRows
import Derived.KernelRfl
/- A text of the proof. -/
set_option linter.all false
set_option maxRecDepth 100000
set_option maxHeartbeats 2000000
namespace Go.P
open Go.Sim (fL gI iT IFn gH AV pF mI nL jG runP exec xG)
open Go.Proofs
noncomputable section
theorem Lx {f e:Nat} (h:We f e=true):(f=193/\e=5)\/(f=194/\e=5)\/(f=195/\e=2):=by
 unfold We at h;simp only[pN2,fZ]at h;obtain⟨h1,a⟩:=h;have a:=qF2 a;simp at h1;rcases h1 with rfl|rfl|rfl<;>simp[a]
theorem Ly {M:Mm} (b:∀e∈M,e.1=5):∀f xs v,iI f=false->Sn false f xs=some v->lQ (TM M) f xs v:=by
 intro f xs v _ h;have a:∀f,f≠5->∀ys,(TM M).memo f ys=none:=fun f hf ys=>mI (fun e he h=>hf ((h.symm.trans (b e he)))) ys;unfold Sn at h;split at h;rename_i e rows;cases hc:(We f e&&Nat.ble rows.length 1073741824)with
 |false=>rw[hc]at h;cases h
 |true=>
  rw[hc]at h;cases h;simp only[pN2]at hc;obtain⟨h1,h2⟩:=hc;have h2:=pY2 h2;rcases Lx h1 with⟨rfl,rfl⟩|⟨rfl,rfl⟩|⟨rfl,rfl⟩
  exact yO (show TM M 193=some (fK 108 5 40 [(.int .i64 0),(.int .i64 0),(.int .i64 0),(.bool false),(.int .i64 0)])by kernel_rfl) (a _ (by decide)) h2;exact yO (show TM M 194=some (fK 167 5 40 [(.int .i64 0),(.int .i64 0),(.int .i64 0),(.int .i64 0),(.bool false)])by kernel_rfl) (a _ (by decide)) h2;exact yO (show TM M 195=some (fK 114 2 24 [(.string ⟨#[]⟩),(.int .i64 0)])by kernel_rfl) (a _ (by decide)) h2
 cases h;cases h
theorem xH1 [Inhabited Rc] (M:Mm):zO (TM M) iI Fa (nY clN):=Qq (cl:=clN) fun f p h=>by
 unfold clN at h
 cases h
theorem Yp (M:Mm) (c:∀e∈M,e.1=5):∀k,zO (TM M) iI Fa (@uZ ⟨⟨Ek k⟩⟩).run
 |0=>Ns (@xH1 ⟨⟨Ek 0⟩⟩ M) fun f xs h n v h' n' C s lim ys _ _ hk=>by
  obtain⟨_,_,a,b,_,_,hg,_⟩:=uT hk
  cases hg
 |k+1=>Ns (@xH1 ⟨⟨Ek 0⟩⟩ M)<|by
  obtain⟨d,g⟩:=Vt (P:=Fa) (Ly c) (Yp M c k) (nV1 c) 3
  refine Qn (fn:=kC1) d g (f0:=208) (by kernel_rfl) (by rw[Hu];kernel_rfl) fun f xs h n v h' n' hk=>?_
  obtain⟨rfl,rfl,a,b,rfl,rfl,hg,he⟩:=uT hk
  cases he
  refine⟨rfl,rfl,?_⟩
  have hg:yS (Ek k) a.1 a.2.1 a.2.2.1 a.2.2.2=some b:=hg
  exact(@lG1 ⟨⟨Ek k⟩⟩ false 0 a.1 a.2.1 a.2.2.1 a.2.2.2).trans ((congrArg (Option.map _) hg).trans rfl)
theorem xI1 (M:Mm) (a:∀e∈M,e.1=5:=by first|exact Lw|(intro _ h;cases h)):zO (TM M) iI Fa uZ.run:=Yp M a 64
theorem Lz:jG Tryz.prog 7 [.agg (Nu 12 Wh.g)] (.v (.bool true)):=by
 refine Wc iZ2 Yo (xs:=[.agg Wh.g]) ?_ (aY1 (by kernel_rfl)) (by kernel_rfl);refine hA1 (NW:=uZ) (Ly (M:=[]) (fun _ h=>by cases h)) (xI1 []) (nV1 (M:=[]) (fun _ h=>by cases h)) 26 7 _ _ ?_;rw[show Od (Sn false) iI uZ Fa 26 7 _=_ from ok7 0 Wh,show F7 Wh=some true by kernel_rfl];rfl
abbrev M2:Mm:=[(7,[.agg (Nu 12 Wh.g)],.v (.bool true))]
abbrev T2:gH:=⟨fun f=>(tl2[f]?).join,pF M2⟩
theorem jA2:fL Tryz.prog T2:=gI.tab (M:=M2) iY2 ⟨Lz,trivial⟩
theorem Se:runP T2 (exec T2 300) 5 ix5 []=some (.v (.bool true)):=by kernel_rfl
theorem Iq:jG Tryz.prog 5 [] (.v (.bool true)):=xG (fn:=ix5) jA2 Yo (by kernel_rfl) rfl rfl Se
theorem nW1:fL Tryz.prog TBL:=gI.tab (M:=MK) xG1 ⟨Iq,trivial⟩
theorem gJ1:∀f xs v,iI f=false->Sn true f xs=some v->lQ TBL f xs v:=by
 intro f xs v hf h;by_cases a:xs=[]/\f=5;obtain⟨rfl,rfl⟩:=a;cases h;exact Wd (fn:=ix5) (by kernel_rfl) rfl rfl rfl;refine Ly Lw f xs v hf ?_;unfold Sn at h ⊢;split at h;exact h;cases hc:Nat.beq f 5 with
 |false=>rw[hc]at h;cases h
 |true=>exact(a ⟨rfl,qF2 hc⟩).elim
 cases h
end
end Go.P
namespace Go.P
open Go.Sim Go.Proofs
theorem y39 {D:Nat} {cs:aA AV} (h:iS Tryz.prog D 39 cs):∃x:YZ,(fun _=>True) x/\LR (RC false) x.g cs:=by
 obtain⟨D,h⟩:=eC Tryz.underlying39 h;obtain⟨c0,d0,rfl,_,h0,c1,d,rfl,_,h1,e⟩:=h;subst e;obtain⟨a,b⟩:=eS (by kernel_rfl) h0;obtain⟨a1,c⟩:=eS (by kernel_rfl) h1;exact⟨⟨a,a1⟩,trivial,(b.append (c.append .nil))⟩
theorem y55 {D:Nat} {cs:aA AV} (h:iS Tryz.prog D 55 cs):∃x:YL,(fun _=>True) x/\LR (RC false) x.g cs:=by
 obtain⟨D,h⟩:=eC Tryz.underlying55 h;obtain⟨c0,d0,rfl,_,h0,c1,d,rfl,_,h1,e⟩:=h;subst e;obtain⟨a,b⟩:=eS (by kernel_rfl) h0;obtain⟨a1,c⟩:=eS (by kernel_rfl) h1;exact⟨⟨a,a1⟩,trivial,(b.append (c.append .nil))⟩
theorem y97 {D:Nat} {cs:aA AV} (h:iS Tryz.prog D 97 cs):∃x:YF,(fun _=>True) x/\LR (RC false) x.g cs:=by
 obtain⟨D,h⟩:=eC Tryz.underlying97 h;obtain⟨c0,d0,rfl,_,h0,c1,f,rfl,_,h1,e⟩:=h;subst e;obtain⟨a,d,b⟩:=y39 h0;obtain⟨a1,c⟩:=eS (by kernel_rfl) h1;exact⟨⟨a,a1⟩,trivial,(b.append (c.append .nil))⟩
theorem y58 {D:Nat} {cs:aA AV} (h:iS Tryz.prog D 58 cs):∃x:YJ,(fun x=>x.b) x/\LR (RC false) x.g cs:=by
 obtain⟨D,h⟩:=eC Tryz.underlying58 h;obtain⟨c0,d0,rfl,_,h0,c1,n,rfl,_,h1,c2,o,rfl,_,h2,c3,p,rfl,_,d,e⟩:=h;subst e;obtain⟨a,l,f⟩:=y39 h0;obtain⟨a1,b1,i⟩:=aV1 (by kernel_rfl) h1;obtain⟨a2,b2,j⟩:=y55 h2;obtain⟨a3,⟨b3,c3⟩,k⟩:=Nt (B:=fun _=>True) (c:=YF.g) (m:=3) (by kernel_rfl) (by kernel_rfl) (fun _ _ h=>y97 h) (fun _=>rfl) d;exact⟨⟨a,a1,a2,a3⟩,⟨mV b1,mV b3⟩,(f.append (i.append (j.append (k.append .nil))))⟩
theorem y59 {D:Nat} {cs:aA AV} (h:iS Tryz.prog D 59 cs):∃x:Y6,True/\LR (RC false) x.g cs:=by
 obtain⟨D,rows,rfl,hl,h⟩:=zJ1 (n:=6) (e:=3) (by kernel_rfl) h;obtain⟨f,i,j,k,l,m,rfl⟩:=pA1 hl;obtain⟨a,h0⟩:=eS (by kernel_rfl) (h f (by simp)).2;obtain⟨a1,h1⟩:=eS (by kernel_rfl) (h i (by simp)).2;obtain⟨a2,h2⟩:=eS (by kernel_rfl) (h j (by simp)).2;obtain⟨a3,b⟩:=eS (by kernel_rfl) (h k (by simp)).2;obtain⟨a4,c⟩:=eS (by kernel_rfl) (h l (by simp)).2;obtain⟨a5,d⟩:=eS (by kernel_rfl) (h m (by simp)).2;exact⟨⟨a,a1,a2,a3,a4,a5⟩,trivial,(h0.append (h1.append (h2.append (b.append (c.append (d.append .nil))))))⟩
theorem y61 {D:Nat} {cs:aA AV} (h:iS Tryz.prog D 61 cs):∃x:YX,(fun _=>True) x/\LR (RC false) x.g cs:=by
 obtain⟨D,h⟩:=eC Tryz.underlying61 h;obtain⟨c0,d0,rfl,_,h0,c1,f,rfl,_,h1,c2,i,rfl,_,h2,e⟩:=h;subst e;obtain⟨a,b⟩:=eS (by kernel_rfl) h0;obtain⟨a1,c⟩:=eS (by kernel_rfl) h1;obtain⟨a2,b2,d⟩:=y59 h2;exact⟨⟨a,a1,a2⟩,trivial,(b.append (c.append (d.append .nil)))⟩
theorem jB2 {D:Nat} {cs:aA AV} (h:iS Tryz.prog D 193 cs):∃x:YT,(fun _=>True) x/\LR (RC false) x.g cs:=by
 obtain⟨D,h⟩:=eC Tryz.underlying193 h;obtain⟨c0,d0,rfl,_,h0,c1,f,rfl,_,h1,c2,i,rfl,_,h2,e⟩:=h;subst e;obtain⟨a,b⟩:=eS (by kernel_rfl) h0;obtain⟨a1,c⟩:=eS (by kernel_rfl) h1;obtain⟨a2,d⟩:=Hy (by kernel_rfl) h2;exact⟨⟨a,a1,a2⟩,trivial,(b.append (c.append (d.append .nil)))⟩
theorem jC2 {D:Nat} {cs:aA AV} (h:iS Tryz.prog D 154 cs):∃x:YC,(fun _=>True) x/\LR (RC false) x.g cs:=by
 obtain⟨D,h⟩:=eC Tryz.underlying154 h;obtain⟨c0,d0,rfl,_,h0,c1,d,rfl,_,h1,e⟩:=h;subst e;obtain⟨a,b⟩:=eS (by kernel_rfl) h0;obtain⟨a1,c⟩:=eS (by kernel_rfl) h1;exact⟨⟨a,a1⟩,trivial,(b.append (c.append .nil))⟩
theorem y99 {D:Nat} {cs:aA AV} (h:iS Tryz.prog D 99 cs):∃x:YA,(fun _=>True) x/\LR (RC false) x.g cs:=by
 obtain⟨D,h⟩:=eC Tryz.underlying99 h;obtain⟨c0,d0,rfl,_,h0,c1,d,rfl,_,h1,e⟩:=h;subst e;obtain⟨a,b⟩:=eS (by kernel_rfl) h0;obtain⟨a1,c⟩:=eS (by kernel_rfl) h1;exact⟨⟨a,a1⟩,trivial,(b.append (c.append .nil))⟩
theorem xJ1 {D:Nat} {cs:aA AV} (h:iS Tryz.prog D 106 cs):∃x:YH,(fun _=>True) x/\LR (RC false) x.g cs:=by
 obtain⟨D,h⟩:=eC Tryz.underlying106 h;obtain⟨c0,d0,rfl,_,h0,c1,f,rfl,_,h1,c2,i,rfl,_,h2,e⟩:=h;subst e;obtain⟨a,b⟩:=eS (by kernel_rfl) h0;obtain⟨a1,c⟩:=eS (by kernel_rfl) h1;obtain⟨a2,d⟩:=eS (by kernel_rfl) h2;exact⟨⟨a,a1,a2⟩,trivial,(b.append (c.append (d.append .nil)))⟩
theorem jD2 {D:Nat} {cs:aA AV} (h:iS Tryz.prog D 108 cs):∃x:YB,(fun _=>True) x/\LR (RC false) x.g cs:=by
 obtain⟨D,h⟩:=eC Tryz.underlying108 h;obtain⟨c0,d0,rfl,_,h0,c1,i,rfl,_,h1,c2,j,rfl,_,h2,e⟩:=h;subst e;obtain⟨a,f,b⟩:=xJ1 h0;obtain⟨a1,c⟩:=Hy (by kernel_rfl) h1;obtain⟨a2,d⟩:=eS (by kernel_rfl) h2;exact⟨⟨a,a1,a2⟩,trivial,(b.append (c.append (d.append .nil)))⟩
theorem jE2 {D:Nat} {cs:aA AV} (h:iS Tryz.prog D 167 cs):∃x:YD,(fun _=>True) x/\LR (RC false) x.g cs:=by
 obtain⟨D,h⟩:=eC Tryz.underlying167 h;obtain⟨c0,d0,rfl,_,h0,c1,i,rfl,_,h1,c2,j,rfl,_,h2,e⟩:=h;subst e;obtain⟨a,f,b⟩:=xJ1 h0;obtain⟨a1,c⟩:=eS (by kernel_rfl) h1;obtain⟨a2,d⟩:=Hy (by kernel_rfl) h2;exact⟨⟨a,a1,a2⟩,trivial,(b.append (c.append (d.append .nil)))⟩
theorem jF2 {D:Nat} {cs:aA AV} (h:iS Tryz.prog D 114 cs):∃x:YY,(fun x=>x.b) x/\LR (RC false) x.g cs:=by
 obtain⟨D,h⟩:=eC Tryz.underlying114 h;obtain⟨c0,d0,rfl,_,h0,c1,i,rfl,_,h1,e⟩:=h;subst e;obtain⟨a,c,d⟩:=aV1 (by kernel_rfl) h0;obtain⟨a1,f⟩:=eS (by kernel_rfl) h1;exact⟨⟨a,a1⟩,⟨mV c⟩,(d.append (f.append .nil))⟩
theorem jG2 {D:Nat} {cs:aA AV} (h:iS Tryz.prog D 104 cs):∃x:YE,(fun x=>x.b) x/\LR (RC false) x.g cs:=by
 obtain⟨D,h⟩:=eC Tryz.underlying104 h;obtain⟨c0,d0,rfl,_,h0,c1,J,rfl,_,h1,c2,K,rfl,_,h2,c3,L,rfl,_,n,c4,M,rfl,_,o,c5,N,rfl,_,p,c6,O,rfl,_,q,c7,P,rfl,_,r,c8,R,rfl,_,s,c9,S,rfl,_,t,c10,l,rfl,_,d,e⟩:=h;subst e;obtain⟨i,H,u⟩:=y39 h0;obtain⟨a1,v⟩:=eS (by kernel_rfl) h1;obtain⟨a2,b2,w⟩:=y99 h2;obtain⟨a3,⟨b3,c3⟩,y⟩:=Nt (B:=fun _=>True) (c:=YB.g) (m:=5) (by kernel_rfl) (by kernel_rfl) (fun _ _ h=>jD2 h) (fun _=>rfl) n;obtain⟨a4,⟨j,c4⟩,z⟩:=Nt (B:=fun _=>True) (c:=YD.g) (m:=5) (by kernel_rfl) (by kernel_rfl) (fun _ _ h=>jE2 h) (fun _=>rfl) o;obtain⟨a5,A⟩:=eS (by kernel_rfl) p;obtain⟨a6,C⟩:=eS (by kernel_rfl) q;obtain⟨a7,E⟩:=eS (by kernel_rfl) r;obtain⟨a8,⟨k,c8⟩,F⟩:=Nt (B:=fun x=>x.b) (c:=YY.g) (m:=2) (by kernel_rfl) (by kernel_rfl) (fun _ _ h=>jF2 h) (fun _=>rfl) s;obtain⟨a9,G⟩:=eS (by kernel_rfl) t;obtain⟨a,f⟩:=eS (by kernel_rfl) d;exact⟨⟨i,a1,a2,a3,a4,a5,a6,a7,a8,a9,a⟩,⟨mV b3,mV j,mV k,c8⟩,(u.append (v.append (w.append (y.append (z.append (A.append (C.append (E.append (F.append (G.append (f.append .nil)))))))))))⟩
theorem jH2 {D:Nat} {cs:aA AV} (h:iS Tryz.prog D 291 cs):∃x:YU,(fun _=>True) x/\LR (RC false) x.g cs:=by
 obtain⟨D,h⟩:=eC Tryz.underlying291 h;obtain⟨c0,d0,rfl,_,h0,c1,j,rfl,_,h1,c2,k,rfl,_,h2,c3,l,rfl,_,b,e⟩:=h;subst e;obtain⟨a,c⟩:=eS (by kernel_rfl) h0;obtain⟨a1,d⟩:=eS (by kernel_rfl) h1;obtain⟨a2,f⟩:=eS (by kernel_rfl) h2;obtain⟨a3,i⟩:=eS (by kernel_rfl) b;exact⟨⟨a,a1,a2,a3⟩,trivial,(c.append (d.append (f.append (i.append .nil))))⟩
theorem y74 {D:Nat} {cs:aA AV} (h:iS Tryz.prog D 74 cs):∃x:YO,(fun x=>x.b) x/\LR (RC false) x.g cs:=by
 obtain⟨D,h⟩:=eC Tryz.underlying74 h;obtain⟨c0,d0,rfl,_,h0,c1,j,rfl,_,h1,e⟩:=h;subst e;obtain⟨a,⟨d,c0⟩,f⟩:=Nt (B:=fun x=>x.b) (c:=YE.g) (m:=13) (by kernel_rfl) (by kernel_rfl) (fun _ _ h=>jG2 h) (fun _=>rfl) h0;obtain⟨a1,⟨b1,c1⟩,i⟩:=Nt (B:=fun _=>True) (c:=YU.g) (m:=4) (by kernel_rfl) (by kernel_rfl) (fun _ _ h=>jH2 h) (fun _=>rfl) h1;exact⟨⟨a,a1⟩,⟨mV d,c0,mV b1⟩,(f.append (i.append .nil))⟩
theorem y69 {D:Nat} {cs:aA AV} (h:iS Tryz.prog D 69 cs):∃x:YW,(fun x=>x.b) x/\LR (RC false) x.g cs:=by
 obtain⟨D,h⟩:=eC Tryz.underlying69 h;obtain⟨c0,d0,rfl,_,h0,c1,j,rfl,_,h1,e⟩:=h;subst e;obtain⟨a,⟨d,c0⟩,f⟩:=Nt (B:=fun _=>True) (c:=YC.g) (m:=2) (by kernel_rfl) (by kernel_rfl) (fun _ _ h=>jC2 h) (fun _=>rfl) h0;obtain⟨a1,⟨b1,c1⟩,i⟩:=Nt (B:=fun x=>x.b) (c:=YO.g) (m:=2) (by kernel_rfl) (by kernel_rfl) (fun _ _ h=>y74 h) (fun _=>rfl) h1;exact⟨⟨a,a1⟩,⟨mV d,mV b1,c1⟩,(f.append (i.append .nil))⟩
theorem y65 {D:Nat} {cs:aA AV} (h:iS Tryz.prog D 65 cs):∃x:YM,(fun x=>x.b) x/\LR (RC false) x.g cs:=by
 obtain⟨D,h⟩:=eC Tryz.underlying65 h;obtain⟨c0,d0,rfl,_,h0,c1,X,rfl,_,h1,c2,Y,rfl,_,h2,c3,Z,rfl,_,C,c4,d4,rfl,_,E,c5,d5,rfl,_,F,c6,d6,rfl,_,G,c7,d7,rfl,_,H,c8,d8,rfl,_,J,c9,d9,rfl,_,K,c10,w,rfl,_,n,c11,y,rfl,_,o,c12,z,rfl,_,p,c13,A,rfl,_,q,e⟩:=h;subst e;obtain⟨v,W,L⟩:=y39 h0;obtain⟨a1,b1,M⟩:=y61 h1;obtain⟨a2,N⟩:=eS (by kernel_rfl) h2;obtain⟨a3,O⟩:=eS (by kernel_rfl) C;obtain⟨a4,P⟩:=Hy (by kernel_rfl) E;obtain⟨a5,R⟩:=eS (by kernel_rfl) F;obtain⟨a6,S⟩:=eS (by kernel_rfl) G;obtain⟨a7,T⟩:=eS (by kernel_rfl) H;obtain⟨a8,U⟩:=eS (by kernel_rfl) J;obtain⟨a9,V⟩:=eS (by kernel_rfl) K;obtain⟨a,r⟩:=eS (by kernel_rfl) n;obtain⟨d,j,s⟩:=aV1 (by kernel_rfl) o;obtain⟨f,⟨k,c12⟩,t⟩:=Nt (B:=fun _=>True) (c:=YT.g) (m:=3) (by kernel_rfl) (by kernel_rfl) (fun _ _ h=>jB2 h) (fun _=>rfl) p;obtain⟨i,⟨l,c13⟩,u⟩:=Nt (B:=fun x=>x.b) (c:=YW.g) (m:=2) (by kernel_rfl) (by kernel_rfl) (fun _ _ h=>y69 h) (fun _=>rfl) q;exact⟨⟨v,a1,a2,a3,a4,a5,a6,a7,a8,a9,a,d,f,i⟩,⟨mV j,mV k,mV l,c13⟩,(L.append (M.append (N.append (O.append (P.append (R.append (S.append (T.append (U.append (V.append (r.append (s.append (t.append (u.append .nil))))))))))))))⟩
theorem y47 {D:Nat} {cs:aA AV} (h:iS Tryz.prog D 47 cs):∃x:YN,(fun _=>True) x/\LR (RC false) x.g cs:=by
 obtain⟨D,h⟩:=eC Tryz.underlying47 h;obtain⟨c0,d0,rfl,_,h0,c1,k,rfl,_,h1,c2,l,rfl,_,h2,c3,m,rfl,_,b,e⟩:=h;subst e;obtain⟨a,j,c⟩:=y39 h0;obtain⟨a1,d⟩:=eS (by kernel_rfl) h1;obtain⟨a2,b2,f⟩:=y39 h2;obtain⟨a3,b3,i⟩:=y39 b;exact⟨⟨a,a1,a2,a3⟩,trivial,(c.append (d.append (f.append (i.append .nil))))⟩
theorem y27 {D:Nat} {cs:aA AV} (h:iS Tryz.prog D 27 cs):∃x:Y0,(fun x=>x.b) x/\LR (RC false) x.g cs:=by
 obtain⟨D,h⟩:=eC Tryz.underlying27 h;obtain⟨c0,d0,rfl,_,h0,c1,t,rfl,_,h1,c2,u,rfl,_,h2,c3,v,rfl,_,j,c4,w,rfl,_,k,c5,y,rfl,_,l,e⟩:=h;subst e;obtain⟨a,d,n⟩:=aV1 (by kernel_rfl) h0;obtain⟨a1,o⟩:=Hy (by kernel_rfl) h1;obtain⟨a2,⟨b2,c2⟩,p⟩:=Nt (B:=fun x=>x.b) (c:=YJ.g) (m:=6) (by kernel_rfl) (by kernel_rfl) (fun _ _ h=>y58 h) (fun _=>rfl) h2;obtain⟨a3,⟨b3,c3⟩,q⟩:=Nt (B:=fun x=>x.b) (c:=YM.g) (m:=22) (by kernel_rfl) (by kernel_rfl) (fun _ _ h=>y65 h) (fun _=>rfl) j;obtain⟨a4,⟨f,c4⟩,r⟩:=Nt (B:=fun _=>True) (c:=YN.g) (m:=7) (by kernel_rfl) (by kernel_rfl) (fun _ _ h=>y47 h) (fun _=>rfl) k;obtain⟨a5,⟨i,c5⟩,s⟩:=Nt (B:=fun _=>True) (c:=YZ.g) (m:=2) (by kernel_rfl) (by kernel_rfl) (fun _ _ h=>y39 h) (fun _=>rfl) l;exact⟨⟨a,a1,a2,a3,a4,a5⟩,⟨mV d,mV b2,c2,mV b3,c3,mV f,mV i⟩,(n.append (o.append (p.append (q.append (r.append (s.append .nil))))))⟩
end Go.P
