import Derived.Test.YtlmhifhgadmigaaGreatPl
import Derived.Test.YtlmhifhgadmigaaGreatTb
import Derived.Test.YtlmhifhgadmigaaGreatRows
import Derived.KernelRfl
/- A text of the proof. -/
set_option linter.all false
set_option maxRecDepth 100000
set_option maxHeartbeats 2000000
namespace Go.P
open Go.Sim (fC gB iM IFn gA AV oL lS mW iV runP exec vZ)
open Go.Proofs
noncomputable section
theorem Js {f e:Nat} (h:Tl f e=true):(f=193/\e=5)\/(f=194/\e=5)\/(f=195/\e=2):=by
 unfold Tl at h;simp only[jO2,fP]at h;obtain⟨h1,a⟩:=h;have a:=kG2 a;simp at h1;rcases h1 with rfl|rfl|rfl<;>simp[a]
theorem Jt {M:Mm} (b:∀e∈M,e.1=5):∀f xs v,iD f=false->Pt false f xs=some v->lC (TM M) f xs v:=by
 intro f xs v _ h;have a:∀f,f≠5->∀ys,(TM M).memo f ys=none:=fun f hf ys=>lS (fun e he h=>hf ((h.symm.trans (b e he)))) ys;unfold Pt at h;split at h;rename_i e rows;cases hc:(Tl f e&&Nat.ble rows.length 1073741824)with
 |false=>rw[hc]at h;cases h
 |true=>
  rw[hc]at h;cases h;simp only[jO2]at hc;obtain⟨h1,h2⟩:=hc;have h2:=jZ2 h2;rcases Js h1 with⟨rfl,rfl⟩|⟨rfl,rfl⟩|⟨rfl,rfl⟩
  exact xJ (show TM M 193=some (fB 108 5 40 [(.int .i64 0),(.int .i64 0),(.int .i64 0),(.bool false),(.int .i64 0)])by kernel_rfl) (a _ (by decide)) h2;exact xJ (show TM M 194=some (fB 167 5 40 [(.int .i64 0),(.int .i64 0),(.int .i64 0),(.int .i64 0),(.bool false)])by kernel_rfl) (a _ (by decide)) h2;exact xJ (show TM M 195=some (fB 114 2 24 [(.string ⟨#[]⟩),(.int .i64 0)])by kernel_rfl) (a _ (by decide)) h2
 cases h;cases h
theorem sG1 [Inhabited Rc] (M:Mm):yF (TM M) iD Dg (nI clN):=Ny (cl:=clN) fun f p h=>by
 unfold clN at h
 cases h
theorem Vm (M:Mm) (c:∀e∈M,e.1=5):∀k,yF (TM M) iD Dg (@tY ⟨⟨Cv k⟩⟩).run
 |0=>Lj (@sG1 ⟨⟨Cv 0⟩⟩ M) fun f xs h n v h' n' C s lim ys _ _ hk=>by
  obtain⟨_,_,a,b,_,_,hg,_⟩:=tT hk
  cases hg
 |k+1=>Lj (@sG1 ⟨⟨Cv 0⟩⟩ M)<|by
  obtain⟨d,g⟩:=Ta (P:=Dg) (Jt c) (Vm M c k) (iZ1 c) 3
  refine Nv (fn:=gL1) d g (f0:=208) (by kernel_rfl) (by rw[Ga];kernel_rfl) fun f xs h n v h' n' hk=>?_
  obtain⟨rfl,rfl,a,b,rfl,rfl,hg,he⟩:=tT hk
  cases he
  refine⟨rfl,rfl,?_⟩
  have hg:xN (Cv k) a.1 a.2.1 a.2.2.1 a.2.2.2=some b:=hg
  exact(@hD1 ⟨⟨Cv k⟩⟩ false 0 a.1 a.2.1 a.2.2.1 a.2.2.2).trans ((congrArg (Option.map _) hg).trans rfl)
theorem sH1 (M:Mm) (a:∀e∈M,e.1=5:=by first|exact Jr|(intro _ h;cases h)):yF (TM M) iD Dg tY.run:=Vm M a 64
theorem Ju:iV Tryz.prog 7 [.agg (Ll 12 Tn.g)] (.v (.bool true)):=by
 refine Tj dD2 Vl (xs:=[.agg Tn.g]) ?_ (Xy (by kernel_rfl)) (by kernel_rfl);refine dS1 (NW:=tY) (Jt (M:=[]) (fun _ h=>by cases h)) (sH1 []) (iZ1 (M:=[]) (fun _ h=>by cases h)) 26 7 _ _ ?_;rw[show Od (Pt false) iD tY Dg 26 7 _=_ from ok7 0 Tn,show F7 Tn=some true by kernel_rfl];rfl
abbrev M2:Mm:=[(7,[.agg (Ll 12 Tn.g)],.v (.bool true))]
abbrev T2:gA:=⟨fun f=>(tl2[f]?).join,oL M2⟩
theorem dE2:fC Tryz.prog T2:=gB.tab (M:=M2) dC2 ⟨Ju,trivial⟩
theorem Pm:runP T2 (exec T2 300) 5 ix5 []=some (.v (.bool true)):=by kernel_rfl
theorem Gs:iV Tryz.prog 5 [] (.v (.bool true)):=vZ (fn:=ix5) dE2 Vl (by kernel_rfl) rfl rfl Pm
theorem jA1:fC Tryz.prog TBL:=gB.tab (M:=MK) sF1 ⟨Gs,trivial⟩
theorem dB1:∀f xs v,iD f=false->Pt true f xs=some v->lC TBL f xs v:=by
 intro f xs v hf h;by_cases a:xs=[]/\f=5;obtain⟨rfl,rfl⟩:=a;cases h;exact Tk (fn:=ix5) (by kernel_rfl) rfl rfl rfl;refine Jt Jr f xs v hf ?_;unfold Pt at h ⊢;split at h;exact h;cases hc:Nat.beq f 5 with
 |false=>rw[hc]at h;cases h
 |true=>exact(a ⟨rfl,kG2 hc⟩).elim
 cases h
end
end Go.P
namespace Go.P
open Go.Sim Go.Proofs
theorem y39 {D:Nat} {cs:aA AV} (h:iL Tryz.prog D 39 cs):∃x:YZ,(fun _=>True) x/\LR (RC false) x.g cs:=by
 obtain⟨D,h⟩:=dT Tryz.underlying39 h;obtain⟨c0,d0,rfl,_,h0,c1,d,rfl,_,h1,e⟩:=h;subst e;obtain⟨a,b⟩:=eJ (by kernel_rfl) h0;obtain⟨a1,c⟩:=eJ (by kernel_rfl) h1;exact⟨⟨a,a1⟩,trivial,(b.append (c.append .nil))⟩
theorem y55 {D:Nat} {cs:aA AV} (h:iL Tryz.prog D 55 cs):∃x:YL,(fun _=>True) x/\LR (RC false) x.g cs:=by
 obtain⟨D,h⟩:=dT Tryz.underlying55 h;obtain⟨c0,d0,rfl,_,h0,c1,d,rfl,_,h1,e⟩:=h;subst e;obtain⟨a,b⟩:=eJ (by kernel_rfl) h0;obtain⟨a1,c⟩:=eJ (by kernel_rfl) h1;exact⟨⟨a,a1⟩,trivial,(b.append (c.append .nil))⟩
theorem y97 {D:Nat} {cs:aA AV} (h:iL Tryz.prog D 97 cs):∃x:YF,(fun _=>True) x/\LR (RC false) x.g cs:=by
 obtain⟨D,h⟩:=dT Tryz.underlying97 h;obtain⟨c0,d0,rfl,_,h0,c1,f,rfl,_,h1,e⟩:=h;subst e;obtain⟨a,d,b⟩:=y39 h0;obtain⟨a1,c⟩:=eJ (by kernel_rfl) h1;exact⟨⟨a,a1⟩,trivial,(b.append (c.append .nil))⟩
theorem y58 {D:Nat} {cs:aA AV} (h:iL Tryz.prog D 58 cs):∃x:YJ,(fun x=>x.b) x/\LR (RC false) x.g cs:=by
 obtain⟨D,h⟩:=dT Tryz.underlying58 h;obtain⟨c0,d0,rfl,_,h0,c1,n,rfl,_,h1,c2,o,rfl,_,h2,c3,p,rfl,_,d,e⟩:=h;subst e;obtain⟨a,l,f⟩:=y39 h0;obtain⟨a1,b1,i⟩:=Xv (by kernel_rfl) h1;obtain⟨a2,b2,j⟩:=y55 h2;obtain⟨a3,⟨b3,c3⟩,k⟩:=Lk (B:=fun _=>True) (c:=YF.g) (m:=3) (by kernel_rfl) (by kernel_rfl) (fun _ _ h=>y97 h) (fun _=>rfl) d;exact⟨⟨a,a1,a2,a3⟩,⟨mG b1,mG b3⟩,(f.append (i.append (j.append (k.append .nil))))⟩
theorem y59 {D:Nat} {cs:aA AV} (h:iL Tryz.prog D 59 cs):∃x:Y6,True/\LR (RC false) x.g cs:=by
 obtain⟨D,rows,rfl,hl,h⟩:=uC1 (n:=6) (e:=3) (by kernel_rfl) h;obtain⟨f,i,j,k,l,m,rfl⟩:=kI1 hl;obtain⟨a,h0⟩:=eJ (by kernel_rfl) (h f (by simp)).2;obtain⟨a1,h1⟩:=eJ (by kernel_rfl) (h i (by simp)).2;obtain⟨a2,h2⟩:=eJ (by kernel_rfl) (h j (by simp)).2;obtain⟨a3,b⟩:=eJ (by kernel_rfl) (h k (by simp)).2;obtain⟨a4,c⟩:=eJ (by kernel_rfl) (h l (by simp)).2;obtain⟨a5,d⟩:=eJ (by kernel_rfl) (h m (by simp)).2;exact⟨⟨a,a1,a2,a3,a4,a5⟩,trivial,(h0.append (h1.append (h2.append (b.append (c.append (d.append .nil))))))⟩
theorem y61 {D:Nat} {cs:aA AV} (h:iL Tryz.prog D 61 cs):∃x:YX,(fun _=>True) x/\LR (RC false) x.g cs:=by
 obtain⟨D,h⟩:=dT Tryz.underlying61 h;obtain⟨c0,d0,rfl,_,h0,c1,f,rfl,_,h1,c2,i,rfl,_,h2,e⟩:=h;subst e;obtain⟨a,b⟩:=eJ (by kernel_rfl) h0;obtain⟨a1,c⟩:=eJ (by kernel_rfl) h1;obtain⟨a2,b2,d⟩:=y59 h2;exact⟨⟨a,a1,a2⟩,trivial,(b.append (c.append (d.append .nil)))⟩
theorem dF2 {D:Nat} {cs:aA AV} (h:iL Tryz.prog D 193 cs):∃x:YT,(fun _=>True) x/\LR (RC false) x.g cs:=by
 obtain⟨D,h⟩:=dT Tryz.underlying193 h;obtain⟨c0,d0,rfl,_,h0,c1,f,rfl,_,h1,c2,i,rfl,_,h2,e⟩:=h;subst e;obtain⟨a,b⟩:=eJ (by kernel_rfl) h0;obtain⟨a1,c⟩:=eJ (by kernel_rfl) h1;obtain⟨a2,d⟩:=Ge (by kernel_rfl) h2;exact⟨⟨a,a1,a2⟩,trivial,(b.append (c.append (d.append .nil)))⟩
theorem dG2 {D:Nat} {cs:aA AV} (h:iL Tryz.prog D 154 cs):∃x:YC,(fun _=>True) x/\LR (RC false) x.g cs:=by
 obtain⟨D,h⟩:=dT Tryz.underlying154 h;obtain⟨c0,d0,rfl,_,h0,c1,d,rfl,_,h1,e⟩:=h;subst e;obtain⟨a,b⟩:=eJ (by kernel_rfl) h0;obtain⟨a1,c⟩:=eJ (by kernel_rfl) h1;exact⟨⟨a,a1⟩,trivial,(b.append (c.append .nil))⟩
theorem y99 {D:Nat} {cs:aA AV} (h:iL Tryz.prog D 99 cs):∃x:YA,(fun _=>True) x/\LR (RC false) x.g cs:=by
 obtain⟨D,h⟩:=dT Tryz.underlying99 h;obtain⟨c0,d0,rfl,_,h0,c1,d,rfl,_,h1,e⟩:=h;subst e;obtain⟨a,b⟩:=eJ (by kernel_rfl) h0;obtain⟨a1,c⟩:=eJ (by kernel_rfl) h1;exact⟨⟨a,a1⟩,trivial,(b.append (c.append .nil))⟩
theorem sI1 {D:Nat} {cs:aA AV} (h:iL Tryz.prog D 106 cs):∃x:YH,(fun _=>True) x/\LR (RC false) x.g cs:=by
 obtain⟨D,h⟩:=dT Tryz.underlying106 h;obtain⟨c0,d0,rfl,_,h0,c1,f,rfl,_,h1,c2,i,rfl,_,h2,e⟩:=h;subst e;obtain⟨a,b⟩:=eJ (by kernel_rfl) h0;obtain⟨a1,c⟩:=eJ (by kernel_rfl) h1;obtain⟨a2,d⟩:=eJ (by kernel_rfl) h2;exact⟨⟨a,a1,a2⟩,trivial,(b.append (c.append (d.append .nil)))⟩
theorem dH2 {D:Nat} {cs:aA AV} (h:iL Tryz.prog D 108 cs):∃x:YB,(fun _=>True) x/\LR (RC false) x.g cs:=by
 obtain⟨D,h⟩:=dT Tryz.underlying108 h;obtain⟨c0,d0,rfl,_,h0,c1,i,rfl,_,h1,c2,j,rfl,_,h2,e⟩:=h;subst e;obtain⟨a,f,b⟩:=sI1 h0;obtain⟨a1,c⟩:=Ge (by kernel_rfl) h1;obtain⟨a2,d⟩:=eJ (by kernel_rfl) h2;exact⟨⟨a,a1,a2⟩,trivial,(b.append (c.append (d.append .nil)))⟩
theorem dI2 {D:Nat} {cs:aA AV} (h:iL Tryz.prog D 167 cs):∃x:YD,(fun _=>True) x/\LR (RC false) x.g cs:=by
 obtain⟨D,h⟩:=dT Tryz.underlying167 h;obtain⟨c0,d0,rfl,_,h0,c1,i,rfl,_,h1,c2,j,rfl,_,h2,e⟩:=h;subst e;obtain⟨a,f,b⟩:=sI1 h0;obtain⟨a1,c⟩:=eJ (by kernel_rfl) h1;obtain⟨a2,d⟩:=Ge (by kernel_rfl) h2;exact⟨⟨a,a1,a2⟩,trivial,(b.append (c.append (d.append .nil)))⟩
theorem dJ2 {D:Nat} {cs:aA AV} (h:iL Tryz.prog D 114 cs):∃x:YY,(fun x=>x.b) x/\LR (RC false) x.g cs:=by
 obtain⟨D,h⟩:=dT Tryz.underlying114 h;obtain⟨c0,d0,rfl,_,h0,c1,i,rfl,_,h1,e⟩:=h;subst e;obtain⟨a,c,d⟩:=Xv (by kernel_rfl) h0;obtain⟨a1,f⟩:=eJ (by kernel_rfl) h1;exact⟨⟨a,a1⟩,⟨mG c⟩,(d.append (f.append .nil))⟩
theorem dK2 {D:Nat} {cs:aA AV} (h:iL Tryz.prog D 104 cs):∃x:YE,(fun x=>x.b) x/\LR (RC false) x.g cs:=by
 obtain⟨D,h⟩:=dT Tryz.underlying104 h;obtain⟨c0,d0,rfl,_,h0,c1,J,rfl,_,h1,c2,K,rfl,_,h2,c3,L,rfl,_,n,c4,M,rfl,_,o,c5,N,rfl,_,p,c6,O,rfl,_,q,c7,P,rfl,_,r,c8,R,rfl,_,s,c9,S,rfl,_,t,c10,l,rfl,_,d,e⟩:=h;subst e;obtain⟨i,H,u⟩:=y39 h0;obtain⟨a1,v⟩:=eJ (by kernel_rfl) h1;obtain⟨a2,b2,w⟩:=y99 h2;obtain⟨a3,⟨b3,c3⟩,y⟩:=Lk (B:=fun _=>True) (c:=YB.g) (m:=5) (by kernel_rfl) (by kernel_rfl) (fun _ _ h=>dH2 h) (fun _=>rfl) n;obtain⟨a4,⟨j,c4⟩,z⟩:=Lk (B:=fun _=>True) (c:=YD.g) (m:=5) (by kernel_rfl) (by kernel_rfl) (fun _ _ h=>dI2 h) (fun _=>rfl) o;obtain⟨a5,A⟩:=eJ (by kernel_rfl) p;obtain⟨a6,C⟩:=eJ (by kernel_rfl) q;obtain⟨a7,E⟩:=eJ (by kernel_rfl) r;obtain⟨a8,⟨k,c8⟩,F⟩:=Lk (B:=fun x=>x.b) (c:=YY.g) (m:=2) (by kernel_rfl) (by kernel_rfl) (fun _ _ h=>dJ2 h) (fun _=>rfl) s;obtain⟨a9,G⟩:=eJ (by kernel_rfl) t;obtain⟨a,f⟩:=eJ (by kernel_rfl) d;exact⟨⟨i,a1,a2,a3,a4,a5,a6,a7,a8,a9,a⟩,⟨mG b3,mG j,mG k,c8⟩,(u.append (v.append (w.append (y.append (z.append (A.append (C.append (E.append (F.append (G.append (f.append .nil)))))))))))⟩
theorem dL2 {D:Nat} {cs:aA AV} (h:iL Tryz.prog D 291 cs):∃x:YU,(fun _=>True) x/\LR (RC false) x.g cs:=by
 obtain⟨D,h⟩:=dT Tryz.underlying291 h;obtain⟨c0,d0,rfl,_,h0,c1,j,rfl,_,h1,c2,k,rfl,_,h2,c3,l,rfl,_,b,e⟩:=h;subst e;obtain⟨a,c⟩:=eJ (by kernel_rfl) h0;obtain⟨a1,d⟩:=eJ (by kernel_rfl) h1;obtain⟨a2,f⟩:=eJ (by kernel_rfl) h2;obtain⟨a3,i⟩:=eJ (by kernel_rfl) b;exact⟨⟨a,a1,a2,a3⟩,trivial,(c.append (d.append (f.append (i.append .nil))))⟩
theorem y74 {D:Nat} {cs:aA AV} (h:iL Tryz.prog D 74 cs):∃x:YO,(fun x=>x.b) x/\LR (RC false) x.g cs:=by
 obtain⟨D,h⟩:=dT Tryz.underlying74 h;obtain⟨c0,d0,rfl,_,h0,c1,j,rfl,_,h1,e⟩:=h;subst e;obtain⟨a,⟨d,c0⟩,f⟩:=Lk (B:=fun x=>x.b) (c:=YE.g) (m:=13) (by kernel_rfl) (by kernel_rfl) (fun _ _ h=>dK2 h) (fun _=>rfl) h0;obtain⟨a1,⟨b1,c1⟩,i⟩:=Lk (B:=fun _=>True) (c:=YU.g) (m:=4) (by kernel_rfl) (by kernel_rfl) (fun _ _ h=>dL2 h) (fun _=>rfl) h1;exact⟨⟨a,a1⟩,⟨mG d,c0,mG b1⟩,(f.append (i.append .nil))⟩
theorem y69 {D:Nat} {cs:aA AV} (h:iL Tryz.prog D 69 cs):∃x:YW,(fun x=>x.b) x/\LR (RC false) x.g cs:=by
 obtain⟨D,h⟩:=dT Tryz.underlying69 h;obtain⟨c0,d0,rfl,_,h0,c1,j,rfl,_,h1,e⟩:=h;subst e;obtain⟨a,⟨d,c0⟩,f⟩:=Lk (B:=fun _=>True) (c:=YC.g) (m:=2) (by kernel_rfl) (by kernel_rfl) (fun _ _ h=>dG2 h) (fun _=>rfl) h0;obtain⟨a1,⟨b1,c1⟩,i⟩:=Lk (B:=fun x=>x.b) (c:=YO.g) (m:=2) (by kernel_rfl) (by kernel_rfl) (fun _ _ h=>y74 h) (fun _=>rfl) h1;exact⟨⟨a,a1⟩,⟨mG d,mG b1,c1⟩,(f.append (i.append .nil))⟩
theorem y65 {D:Nat} {cs:aA AV} (h:iL Tryz.prog D 65 cs):∃x:YM,(fun x=>x.b) x/\LR (RC false) x.g cs:=by
 obtain⟨D,h⟩:=dT Tryz.underlying65 h;obtain⟨c0,d0,rfl,_,h0,c1,X,rfl,_,h1,c2,Y,rfl,_,h2,c3,Z,rfl,_,C,c4,d4,rfl,_,E,c5,d5,rfl,_,F,c6,d6,rfl,_,G,c7,d7,rfl,_,H,c8,d8,rfl,_,J,c9,d9,rfl,_,K,c10,w,rfl,_,n,c11,y,rfl,_,o,c12,z,rfl,_,p,c13,A,rfl,_,q,e⟩:=h;subst e;obtain⟨v,W,L⟩:=y39 h0;obtain⟨a1,b1,M⟩:=y61 h1;obtain⟨a2,N⟩:=eJ (by kernel_rfl) h2;obtain⟨a3,O⟩:=eJ (by kernel_rfl) C;obtain⟨a4,P⟩:=Ge (by kernel_rfl) E;obtain⟨a5,R⟩:=eJ (by kernel_rfl) F;obtain⟨a6,S⟩:=eJ (by kernel_rfl) G;obtain⟨a7,T⟩:=eJ (by kernel_rfl) H;obtain⟨a8,U⟩:=eJ (by kernel_rfl) J;obtain⟨a9,V⟩:=eJ (by kernel_rfl) K;obtain⟨a,r⟩:=eJ (by kernel_rfl) n;obtain⟨d,j,s⟩:=Xv (by kernel_rfl) o;obtain⟨f,⟨k,c12⟩,t⟩:=Lk (B:=fun _=>True) (c:=YT.g) (m:=3) (by kernel_rfl) (by kernel_rfl) (fun _ _ h=>dF2 h) (fun _=>rfl) p;obtain⟨i,⟨l,c13⟩,u⟩:=Lk (B:=fun x=>x.b) (c:=YW.g) (m:=2) (by kernel_rfl) (by kernel_rfl) (fun _ _ h=>y69 h) (fun _=>rfl) q;exact⟨⟨v,a1,a2,a3,a4,a5,a6,a7,a8,a9,a,d,f,i⟩,⟨mG j,mG k,mG l,c13⟩,(L.append (M.append (N.append (O.append (P.append (R.append (S.append (T.append (U.append (V.append (r.append (s.append (t.append (u.append .nil))))))))))))))⟩
theorem y47 {D:Nat} {cs:aA AV} (h:iL Tryz.prog D 47 cs):∃x:YN,(fun _=>True) x/\LR (RC false) x.g cs:=by
 obtain⟨D,h⟩:=dT Tryz.underlying47 h;obtain⟨c0,d0,rfl,_,h0,c1,k,rfl,_,h1,c2,l,rfl,_,h2,c3,m,rfl,_,b,e⟩:=h;subst e;obtain⟨a,j,c⟩:=y39 h0;obtain⟨a1,d⟩:=eJ (by kernel_rfl) h1;obtain⟨a2,b2,f⟩:=y39 h2;obtain⟨a3,b3,i⟩:=y39 b;exact⟨⟨a,a1,a2,a3⟩,trivial,(c.append (d.append (f.append (i.append .nil))))⟩
theorem y27 {D:Nat} {cs:aA AV} (h:iL Tryz.prog D 27 cs):∃x:Y0,(fun x=>x.b) x/\LR (RC false) x.g cs:=by
 obtain⟨D,h⟩:=dT Tryz.underlying27 h;obtain⟨c0,d0,rfl,_,h0,c1,t,rfl,_,h1,c2,u,rfl,_,h2,c3,v,rfl,_,j,c4,w,rfl,_,k,c5,y,rfl,_,l,e⟩:=h;subst e;obtain⟨a,d,n⟩:=Xv (by kernel_rfl) h0;obtain⟨a1,o⟩:=Ge (by kernel_rfl) h1;obtain⟨a2,⟨b2,c2⟩,p⟩:=Lk (B:=fun x=>x.b) (c:=YJ.g) (m:=6) (by kernel_rfl) (by kernel_rfl) (fun _ _ h=>y58 h) (fun _=>rfl) h2;obtain⟨a3,⟨b3,c3⟩,q⟩:=Lk (B:=fun x=>x.b) (c:=YM.g) (m:=22) (by kernel_rfl) (by kernel_rfl) (fun _ _ h=>y65 h) (fun _=>rfl) j;obtain⟨a4,⟨f,c4⟩,r⟩:=Lk (B:=fun _=>True) (c:=YN.g) (m:=7) (by kernel_rfl) (by kernel_rfl) (fun _ _ h=>y47 h) (fun _=>rfl) k;obtain⟨a5,⟨i,c5⟩,s⟩:=Lk (B:=fun _=>True) (c:=YZ.g) (m:=2) (by kernel_rfl) (by kernel_rfl) (fun _ _ h=>y39 h) (fun _=>rfl) l;exact⟨⟨a,a1,a2,a3,a4,a5⟩,⟨mG d,mG b2,c2,mG b3,c3,mG f,mG i⟩,(n.append (o.append (p.append (q.append (r.append (s.append .nil))))))⟩
end Go.P
