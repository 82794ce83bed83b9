import Derived.Test.YtmocdkmjkfpkeaaGreatPl
import Derived.Test.YtmocdkmjkfpkeaaGreatTb
import Derived.Test.YtmocdkmjkfpkeaaGreatRows
import Derived.KernelRfl
/- A text of the proof. -/
set_option linter.all false
set_option maxRecDepth 100000
set_option maxHeartbeats 2000000
namespace Go.P
open Go.Sim (dY eP gL IFn Tab AV oA iC jM fD runP exec qD)
open Go.Proofs
theorem yI {f e:Nat} (h:cl40 f e=true):(f=180/\e=5)\/(f=181/\e=5)\/(f=182/\e=2):=by
 unfold cl40 at h
 simp only[Bool.and_eq_true,dV]at h
 obtain⟨h1,a⟩:=h
 have a:=Nat.eq_of_beq_eq_true a
 simp at h1
 rcases h1 with rfl|rfl|rfl<;>simp[a]
theorem bQ1 {M:Mm} (b:∀e∈M,e.1=6):∀f xs v,NF40 f=false->B40 false f xs=some v->FnOK (TM M) f xs v:=by
 intro f xs v _ h
 have a:∀f,f≠6->∀ys,(TM M).memo f ys=none:=fun f hf ys=>iC (fun e he h=>hf ((h.symm.trans (b e he)))) ys
 unfold B40 at h
 split at h
 .rename_i e rows
  cases hc:(cl40 f e&&Nat.ble rows.length 1073741824)with
  |false=>rw[hc]at h;cases h
  |true=>
   rw[hc]at h
   cases h
   simp only[Bool.and_eq_true]at hc
   obtain⟨h1,h2⟩:=hc
   have h2:=Nat.le_of_ble_eq_true h2
   rcases yI h1 with⟨rfl,rfl⟩|⟨rfl,rfl⟩|⟨rfl,rfl⟩
   .exact rC (show TM M 180=some (gI 85 5 40 [(.int .i64 0),(.int .i64 0),(.int .i64 0),(.bool false),(.int .i64 0)])by kernel_rfl) (a _ (by decide)) h2
   .exact rC (show TM M 181=some (gI 95 5 40 [(.int .i64 0),(.int .i64 0),(.int .i64 0),(.int .i64 0),(.bool false)])by kernel_rfl) (a _ (by decide)) h2
   .exact rC (show TM M 182=some (gI 97 2 24 [(.string ⟨#[]⟩),(.int .i64 0)])by kernel_rfl) (a _ (by decide)) h2
 .cases h
 .cases h
theorem yJ:fD Tryz.prog 9 [.agg (yH 12 sc39.g)] (.v (.bool true)):=by
 refine xA tab0 dY1 (xs:=[.agg sc39.g]) ?_ (bJ1 (by kernel_rfl)) (by kernel_rfl)
 refine gW1 (NW:=NW40) (bQ1 (M:=[]) (fun _ h=>by cases h)) (tabM (M:=[]) (fun _ h=>by cases h)) 26 9 _ _ ?_
 rw[show Od (B40 false) NF40 NW40 P40 26 9 _=_ from ok9 0 sc39,show F9 sc39=some true by kernel_rfl]
 rfl
theorem vH:fD Tryz.prog 9 [.agg (yH 12 bL1.g)] (.v (.bool true)):=by
 refine xA tab0 dY1 (xs:=[.agg bL1.g]) ?_ (bJ1 (by kernel_rfl)) (by kernel_rfl)
 refine gW1 (NW:=NW40) (bQ1 (M:=[]) (fun _ h=>by cases h)) (tabM (M:=[]) (fun _ h=>by cases h)) 26 9 _ _ ?_
 rw[show Od (B40 false) NF40 NW40 P40 26 9 _=_ from ok9 0 bL1,show F9 bL1=some true by kernel_rfl]
 rfl
abbrev M2:Mm:=[(9,[.agg (yH 12 sc39.g)],.v (.bool true)),(9,[.agg (yH 12 bL1.g)],.v (.bool true))]
abbrev T2:Tab:=⟨fun f=>(tl2[f]?).join,oA M2⟩
theorem tab2:dY Tryz.prog T2:=eP.tab (M:=M2) all2 ⟨yJ,vH,trivial⟩
theorem bR1:runP T2 (exec T2 300) 6 ix6 []=some (.v (.bool true)):=by kernel_rfl
theorem vI:fD Tryz.prog 6 [] (.v (.bool true)):=qD (fn:=ix6) tab2 dY1 (by kernel_rfl) rfl rfl bR1
theorem jH1:dY Tryz.prog TBL:=eP.tab (M:=MK) all1 ⟨vI,trivial⟩
theorem hH1:∀f xs v,NF40 f=false->B40 true f xs=some v->FnOK TBL f xs v:=by
 intro f xs v hf h
 by_cases a:xs=[]/\f=6
 .obtain ⟨rfl,rfl⟩:=a
  cases h
  exact dW1 (fn:=ix6) (by kernel_rfl) rfl rfl rfl
 .refine bQ1 fD1 f xs v hf ?_
  unfold B40 at h ⊢
  split at h
  .exact h
  .cases hc:Nat.beq f 6 with
   |false=>rw[hc]at h;cases h
   |true=>exact(a ⟨rfl,Nat.eq_of_beq_eq_true hc⟩).elim
  .cases h
end Go.P
namespace Go.P
open Go.Sim Go.Proofs
theorem y41 {D:Nat} {cs:List AV} (h:TyC Tryz.prog D 41 cs):∃x:Zz,(fun _=>True) x/\LR (RC false) x.g cs:=by
 obtain⟨D,h⟩:=cH Tryz.underlying41 h
 obtain⟨c0,d,rfl,_,h0,c1,f,rfl,_,h1,e⟩:=h
 subst e
 obtain⟨a,b⟩:=rInt (by kernel_rfl) h0
 obtain⟨a1,c⟩:=rInt (by kernel_rfl) h1
 exact⟨⟨a,a1⟩,trivial,(b.append (c.append .nil))⟩
theorem y31 {D:Nat} {cs:List AV} (h:TyC Tryz.prog D 31 cs):∃x:Zl,(fun _=>True) x/\LR (RC false) x.g cs:=by
 obtain⟨D,h⟩:=cH Tryz.underlying31 h
 obtain⟨c0,d,rfl,_,h0,c1,f,rfl,_,h1,e⟩:=h
 subst e
 obtain⟨a,b⟩:=rInt (by kernel_rfl) h0
 obtain⟨a1,c⟩:=rInt (by kernel_rfl) h1
 exact⟨⟨a,a1⟩,trivial,(b.append (c.append .nil))⟩
theorem y99 {D:Nat} {cs:List AV} (h:TyC Tryz.prog D 99 cs):∃x:Zf,(fun _=>True) x/\LR (RC false) x.g cs:=by
 obtain⟨D,h⟩:=cH Tryz.underlying99 h
 obtain⟨c0,f,rfl,_,h0,c1,i,rfl,_,h1,e⟩:=h
 subst e
 obtain⟨a,d,b⟩:=y41 h0
 obtain⟨a1,c⟩:=rInt (by kernel_rfl) h1
 exact⟨⟨a,a1⟩,trivial,(b.append (c.append .nil))⟩
theorem y62 {D:Nat} {cs:List AV} (h:TyC Tryz.prog D 62 cs):∃x:Zj,(fun x=>x.b) x/\LR (RC false) x.g cs:=by
 obtain⟨D,h⟩:=cH Tryz.underlying62 h
 obtain⟨c0,n,rfl,_,h0,c1,o,rfl,_,h1,c2,p,rfl,_,h2,c3,q,rfl,_,d,e⟩:=h
 subst e
 obtain⟨a,l,f⟩:=y41 h0
 obtain⟨a1,b1,i⟩:=rStr (by kernel_rfl) h1
 obtain⟨a2,b2,j⟩:=y31 h2
 obtain⟨a3,⟨b3,c3⟩,k⟩:=rSl (B:=fun _=>True) (c:=Zf.g) (m:=3) (by kernel_rfl) (by kernel_rfl) (fun _ _ h=>y99 h) (fun _=>rfl) d
 exact⟨⟨a,a1,a2,a3⟩,⟨lt62 b1,lt62 b3⟩,(f.append (i.append (j.append (k.append .nil))))⟩
theorem y42 {D:Nat} {cs:List AV} (h:TyC Tryz.prog D 42 cs):∃x:Z6,True/\LR (RC false) x.g cs:=by
 obtain⟨D,rows,rfl,hl,h⟩:=rArr (n:=6) (e:=3) (by kernel_rfl) h
 obtain⟨f,r1,r2,r3,r4,r5,rfl⟩:=jZ1 hl
 obtain⟨a,h0⟩:=rInt (by kernel_rfl) (h f (by simp)).2
 obtain⟨a1,h1⟩:=rInt (by kernel_rfl) (h r1 (by simp)).2
 obtain⟨a2,h2⟩:=rInt (by kernel_rfl) (h r2 (by simp)).2
 obtain⟨a3,b⟩:=rInt (by kernel_rfl) (h r3 (by simp)).2
 obtain⟨a4,c⟩:=rInt (by kernel_rfl) (h r4 (by simp)).2
 obtain⟨a5,d⟩:=rInt (by kernel_rfl) (h r5 (by simp)).2
 exact⟨⟨a,a1,a2,a3,a4,a5⟩,trivial,(h0.append (h1.append (h2.append (b.append (c.append (d.append .nil))))))⟩
theorem y44 {D:Nat} {cs:List AV} (h:TyC Tryz.prog D 44 cs):∃x:Zx,(fun _=>True) x/\LR (RC false) x.g cs:=by
 obtain⟨D,h⟩:=cH Tryz.underlying44 h
 obtain⟨c0,f,rfl,_,h0,c1,i,rfl,_,h1,c2,j,rfl,_,h2,e⟩:=h
 subst e
 obtain⟨a,b⟩:=rInt (by kernel_rfl) h0
 obtain⟨a1,c⟩:=rInt (by kernel_rfl) h1
 obtain⟨a2,b2,d⟩:=y42 h2
 exact⟨⟨a,a1,a2⟩,trivial,(b.append (c.append (d.append .nil)))⟩
theorem y168 {D:Nat} {cs:List AV} (h:TyC Tryz.prog D 168 cs):∃x:Zt,(fun _=>True) x/\LR (RC false) x.g cs:=by
 obtain⟨D,h⟩:=cH Tryz.underlying168 h
 obtain⟨c0,f,rfl,_,h0,c1,i,rfl,_,h1,c2,j,rfl,_,h2,e⟩:=h
 subst e
 obtain⟨a,b⟩:=rInt (by kernel_rfl) h0
 obtain⟨a1,c⟩:=rInt (by kernel_rfl) h1
 obtain⟨a2,d⟩:=bI1 (by kernel_rfl) h2
 exact⟨⟨a,a1,a2⟩,trivial,(b.append (c.append (d.append .nil)))⟩
theorem y128 {D:Nat} {cs:List AV} (h:TyC Tryz.prog D 128 cs):∃x:Zc,(fun _=>True) x/\LR (RC false) x.g cs:=by
 obtain⟨D,h⟩:=cH Tryz.underlying128 h
 obtain⟨c0,d,rfl,_,h0,c1,f,rfl,_,h1,e⟩:=h
 subst e
 obtain⟨a,b⟩:=rInt (by kernel_rfl) h0
 obtain⟨a1,c⟩:=rInt (by kernel_rfl) h1
 exact⟨⟨a,a1⟩,trivial,(b.append (c.append .nil))⟩
theorem y78 {D:Nat} {cs:List AV} (h:TyC Tryz.prog D 78 cs):∃x:Za,(fun _=>True) x/\LR (RC false) x.g cs:=by
 obtain⟨D,h⟩:=cH Tryz.underlying78 h
 obtain⟨c0,d,rfl,_,h0,c1,f,rfl,_,h1,e⟩:=h
 subst e
 obtain⟨a,b⟩:=rInt (by kernel_rfl) h0
 obtain⟨a1,c⟩:=rInt (by kernel_rfl) h1
 exact⟨⟨a,a1⟩,trivial,(b.append (c.append .nil))⟩
theorem y54 {D:Nat} {cs:List AV} (h:TyC Tryz.prog D 54 cs):∃x:Zh,(fun _=>True) x/\LR (RC false) x.g cs:=by
 obtain⟨D,h⟩:=cH Tryz.underlying54 h
 obtain⟨c0,f,rfl,_,h0,c1,i,rfl,_,h1,c2,j,rfl,_,h2,e⟩:=h
 subst e
 obtain⟨a,b⟩:=rInt (by kernel_rfl) h0
 obtain⟨a1,c⟩:=rInt (by kernel_rfl) h1
 obtain⟨a2,d⟩:=rInt (by kernel_rfl) h2
 exact⟨⟨a,a1,a2⟩,trivial,(b.append (c.append (d.append .nil)))⟩
theorem y85 {D:Nat} {cs:List AV} (h:TyC Tryz.prog D 85 cs):∃x:Zb,(fun _=>True) x/\LR (RC false) x.g cs:=by
 obtain⟨D,h⟩:=cH Tryz.underlying85 h
 obtain⟨c0,i,rfl,_,h0,c1,j,rfl,_,h1,c2,k,rfl,_,h2,e⟩:=h
 subst e
 obtain⟨a,f,b⟩:=y54 h0
 obtain⟨a1,c⟩:=bI1 (by kernel_rfl) h1
 obtain⟨a2,d⟩:=rInt (by kernel_rfl) h2
 exact⟨⟨a,a1,a2⟩,trivial,(b.append (c.append (d.append .nil)))⟩
theorem y95 {D:Nat} {cs:List AV} (h:TyC Tryz.prog D 95 cs):∃x:Zd,(fun _=>True) x/\LR (RC false) x.g cs:=by
 obtain⟨D,h⟩:=cH Tryz.underlying95 h
 obtain⟨c0,i,rfl,_,h0,c1,j,rfl,_,h1,c2,k,rfl,_,h2,e⟩:=h
 subst e
 obtain⟨a,f,b⟩:=y54 h0
 obtain⟨a1,c⟩:=rInt (by kernel_rfl) h1
 obtain⟨a2,d⟩:=bI1 (by kernel_rfl) h2
 exact⟨⟨a,a1,a2⟩,trivial,(b.append (c.append (d.append .nil)))⟩
theorem y97 {D:Nat} {cs:List AV} (h:TyC Tryz.prog D 97 cs):∃x:Zy,(fun x=>x.b) x/\LR (RC false) x.g cs:=by
 obtain⟨D,h⟩:=cH Tryz.underlying97 h
 obtain⟨c0,i,rfl,_,h0,c1,j,rfl,_,h1,e⟩:=h
 subst e
 obtain⟨a,c,d⟩:=rStr (by kernel_rfl) h0
 obtain⟨a1,f⟩:=rInt (by kernel_rfl) h1
 exact⟨⟨a,a1⟩,⟨lt62 c⟩,(d.append (f.append .nil))⟩
theorem y83 {D:Nat} {cs:List AV} (h:TyC Tryz.prog D 83 cs):∃x:Ze,(fun x=>x.b) x/\LR (RC false) x.g cs:=by
 obtain⟨D,h⟩:=cH Tryz.underlying83 h
 obtain⟨c0,J,rfl,_,h0,c1,K,rfl,_,h1,c2,L,rfl,_,h2,c3,M,rfl,_,n,c4,N,rfl,_,o,c5,O,rfl,_,p,c6,P,rfl,_,q,c7,R,rfl,_,r,c8,S,rfl,_,s,c9,T,rfl,_,t,c10,l,rfl,_,d,e⟩:=h
 subst e
 obtain⟨i,H,u⟩:=y41 h0
 obtain⟨a1,v⟩:=rInt (by kernel_rfl) h1
 obtain⟨a2,b2,w⟩:=y78 h2
 obtain⟨a3,⟨b3,c3⟩,y⟩:=rSl (B:=fun _=>True) (c:=Zb.g) (m:=5) (by kernel_rfl) (by kernel_rfl) (fun _ _ h=>y85 h) (fun _=>rfl) n
 obtain⟨a4,⟨j,c4⟩,z⟩:=rSl (B:=fun _=>True) (c:=Zd.g) (m:=5) (by kernel_rfl) (by kernel_rfl) (fun _ _ h=>y95 h) (fun _=>rfl) o
 obtain⟨a5,A⟩:=rInt (by kernel_rfl) p
 obtain⟨a6,C⟩:=rInt (by kernel_rfl) q
 obtain⟨a7,E⟩:=rInt (by kernel_rfl) r
 obtain⟨a8,⟨k,c8⟩,F⟩:=rSl (B:=fun x=>x.b) (c:=Zy.g) (m:=2) (by kernel_rfl) (by kernel_rfl) (fun _ _ h=>y97 h) (fun _=>rfl) s
 obtain⟨a9,G⟩:=rInt (by kernel_rfl) t
 obtain⟨a,f⟩:=rInt (by kernel_rfl) d
 exact⟨⟨i,a1,a2,a3,a4,a5,a6,a7,a8,a9,a⟩,⟨lt62 b3,lt62 j,lt62 k,c8⟩,(u.append (v.append (w.append (y.append (z.append (A.append (C.append (E.append (F.append (G.append (f.append .nil)))))))))))⟩
theorem y294 {D:Nat} {cs:List AV} (h:TyC Tryz.prog D 294 cs):∃x:Zu,(fun _=>True) x/\LR (RC false) x.g cs:=by
 obtain⟨D,h⟩:=cH Tryz.underlying294 h
 obtain⟨c0,j,rfl,_,h0,c1,k,rfl,_,h1,c2,l,rfl,_,h2,c3,m,rfl,_,b,e⟩:=h
 subst e
 obtain⟨a,c⟩:=rInt (by kernel_rfl) h0
 obtain⟨a1,d⟩:=rInt (by kernel_rfl) h1
 obtain⟨a2,f⟩:=rInt (by kernel_rfl) h2
 obtain⟨a3,i⟩:=rInt (by kernel_rfl) b
 exact⟨⟨a,a1,a2,a3⟩,trivial,(c.append (d.append (f.append (i.append .nil))))⟩
theorem y72 {D:Nat} {cs:List AV} (h:TyC Tryz.prog D 72 cs):∃x:Zo,(fun x=>x.b) x/\LR (RC false) x.g cs:=by
 obtain⟨D,h⟩:=cH Tryz.underlying72 h
 obtain⟨c0,j,rfl,_,h0,c1,k,rfl,_,h1,e⟩:=h
 subst e
 obtain⟨a,⟨d,c0⟩,f⟩:=rSl (B:=fun x=>x.b) (c:=Ze.g) (m:=13) (by kernel_rfl) (by kernel_rfl) (fun _ _ h=>y83 h) (fun _=>rfl) h0
 obtain⟨a1,⟨b1,c1⟩,i⟩:=rSl (B:=fun _=>True) (c:=Zu.g) (m:=4) (by kernel_rfl) (by kernel_rfl) (fun _ _ h=>y294 h) (fun _=>rfl) h1
 exact⟨⟨a,a1⟩,⟨lt62 d,c0,lt62 b1⟩,(f.append (i.append .nil))⟩
theorem y67 {D:Nat} {cs:List AV} (h:TyC Tryz.prog D 67 cs):∃x:Zw,(fun x=>x.b) x/\LR (RC false) x.g cs:=by
 obtain⟨D,h⟩:=cH Tryz.underlying67 h
 obtain⟨c0,j,rfl,_,h0,c1,k,rfl,_,h1,e⟩:=h
 subst e
 obtain⟨a,⟨d,c0⟩,f⟩:=rSl (B:=fun _=>True) (c:=Zc.g) (m:=2) (by kernel_rfl) (by kernel_rfl) (fun _ _ h=>y128 h) (fun _=>rfl) h0
 obtain⟨a1,⟨b1,c1⟩,i⟩:=rSl (B:=fun x=>x.b) (c:=Zo.g) (m:=2) (by kernel_rfl) (by kernel_rfl) (fun _ _ h=>y72 h) (fun _=>rfl) h1
 exact⟨⟨a,a1⟩,⟨lt62 d,lt62 b1,c1⟩,(f.append (i.append .nil))⟩
theorem y48 {D:Nat} {cs:List AV} (h:TyC Tryz.prog D 48 cs):∃x:Zm,(fun x=>x.b) x/\LR (RC false) x.g cs:=by
 obtain⟨D,h⟩:=cH Tryz.underlying48 h
 obtain⟨c0,X,rfl,_,h0,c1,Y,rfl,_,h1,c2,Z,rfl,_,h2,c3,d3,rfl,_,C,c4,d4,rfl,_,E,c5,d5,rfl,_,F,c6,d6,rfl,_,G,c7,d7,rfl,_,H,c8,d8,rfl,_,J,c9,d9,rfl,_,K,c10,w,rfl,_,n,c11,y,rfl,_,o,c12,z,rfl,_,p,c13,A,rfl,_,q,e⟩:=h
 subst e
 obtain⟨v,W,L⟩:=y41 h0
 obtain⟨a1,b1,M⟩:=y44 h1
 obtain⟨a2,N⟩:=rInt (by kernel_rfl) h2
 obtain⟨a3,O⟩:=rInt (by kernel_rfl) C
 obtain⟨a4,P⟩:=bI1 (by kernel_rfl) E
 obtain⟨a5,R⟩:=rInt (by kernel_rfl) F
 obtain⟨a6,S⟩:=rInt (by kernel_rfl) G
 obtain⟨a7,T⟩:=rInt (by kernel_rfl) H
 obtain⟨a8,U⟩:=rInt (by kernel_rfl) J
 obtain⟨a9,V⟩:=rInt (by kernel_rfl) K
 obtain⟨a,r⟩:=rInt (by kernel_rfl) n
 obtain⟨d,j,s⟩:=rStr (by kernel_rfl) o
 obtain⟨f,⟨k,c12⟩,t⟩:=rSl (B:=fun _=>True) (c:=Zt.g) (m:=3) (by kernel_rfl) (by kernel_rfl) (fun _ _ h=>y168 h) (fun _=>rfl) p
 obtain⟨i,⟨l,c13⟩,u⟩:=rSl (B:=fun x=>x.b) (c:=Zw.g) (m:=2) (by kernel_rfl) (by kernel_rfl) (fun _ _ h=>y67 h) (fun _=>rfl) q
 exact⟨⟨v,a1,a2,a3,a4,a5,a6,a7,a8,a9,a,d,f,i⟩,⟨lt62 j,lt62 k,lt62 l,c13⟩,(L.append (M.append (N.append (O.append (P.append (R.append (S.append (T.append (U.append (V.append (r.append (s.append (t.append (u.append .nil))))))))))))))⟩
theorem y156 {D:Nat} {cs:List AV} (h:TyC Tryz.prog D 156 cs):∃x:Zn,(fun _=>True) x/\LR (RC false) x.g cs:=by
 obtain⟨D,h⟩:=cH Tryz.underlying156 h
 obtain⟨c0,k,rfl,_,h0,c1,l,rfl,_,h1,c2,m,rfl,_,h2,c3,n,rfl,_,b,e⟩:=h
 subst e
 obtain⟨a,j,c⟩:=y41 h0
 obtain⟨a1,d⟩:=rInt (by kernel_rfl) h1
 obtain⟨a2,b2,f⟩:=y41 h2
 obtain⟨a3,b3,i⟩:=y41 b
 exact⟨⟨a,a1,a2,a3⟩,trivial,(c.append (d.append (f.append (i.append .nil))))⟩
theorem y27 {D:Nat} {cs:List AV} (h:TyC Tryz.prog D 27 cs):∃x:Z0,(fun x=>x.b) x/\LR (RC false) x.g cs:=by
 obtain⟨D,h⟩:=cH Tryz.underlying27 h
 obtain⟨c0,t,rfl,_,h0,c1,u,rfl,_,h1,c2,v,rfl,_,h2,c3,w,rfl,_,j,c4,y,rfl,_,k,c5,z,rfl,_,l,e⟩:=h
 subst e
 obtain⟨a,d,n⟩:=rStr (by kernel_rfl) h0
 obtain⟨a1,o⟩:=bI1 (by kernel_rfl) h1
 obtain⟨a2,⟨b2,c2⟩,p⟩:=rSl (B:=fun x=>x.b) (c:=Zj.g) (m:=6) (by kernel_rfl) (by kernel_rfl) (fun _ _ h=>y62 h) (fun _=>rfl) h2
 obtain⟨a3,⟨b3,c3⟩,q⟩:=rSl (B:=fun x=>x.b) (c:=Zm.g) (m:=22) (by kernel_rfl) (by kernel_rfl) (fun _ _ h=>y48 h) (fun _=>rfl) j
 obtain⟨a4,⟨f,c4⟩,r⟩:=rSl (B:=fun _=>True) (c:=Zn.g) (m:=7) (by kernel_rfl) (by kernel_rfl) (fun _ _ h=>y156 h) (fun _=>rfl) k
 obtain⟨a5,⟨i,c5⟩,s⟩:=rSl (B:=fun _=>True) (c:=Zz.g) (m:=2) (by kernel_rfl) (by kernel_rfl) (fun _ _ h=>y41 h) (fun _=>rfl) l
 exact⟨⟨a,a1,a2,a3,a4,a5⟩,⟨lt62 d,lt62 b2,c2,lt62 b3,c3,lt62 f,lt62 i⟩,(n.append (o.append (p.append (q.append (r.append (s.append .nil))))))⟩
end Go.P
