import Derived.Test.YtajloalceibekaaGreatPl
import Derived.Test.YtajloalceibekaaGreatTb
import Derived.Test.YtajloalceibekaaGreatRows
import Derived.KernelRfl
/- A text of the proof. -/
set_option linter.all false
set_option maxRecDepth 100000
set_option maxHeartbeats 2000000
namespace Go.P
open Go.Sim (eK fE gV IFn Tab AV oU iM kB fQ runP exec qY)
open Go.Proofs
noncomputable section
theorem zK {f e:Nat} (h:cl40 f e=true):(f=155/\e=5)\/(f=156/\e=5):=by
 unfold cl40 at h
 simp only[mQ1,eG]at h
 obtain⟨h1,a⟩:=h
 have a:=nG1 a
 simp at h1
 rcases h1 with rfl|rfl<;>simp[a]
theorem dC1 {M:Mm} (b:∀e∈M,e.1=5):∀f xs v,NF40 f=false->B40 false f xs=some v->FnOK (TM M) f xs v:=by
 intro f xs v _ h
 have a:∀f,f≠5->∀ys,(TM M).memo f ys=none:=fun f hf ys=>iM (fun e he h=>hf ((h.symm.trans (b e he)))) ys
 unfold B40 at h
 split at h
 .rename_i e rows
  cases hc:(cl40 f e&&Nat.ble rows.length 1073741824)with
  |false=>rw[hc]at h;cases h
  |true=>
   rw[hc]at h
   cases h
   simp only[mQ1]at hc
   obtain⟨h1,h2⟩:=hc
   have h2:=nV1 h2
   rcases zK h1 with⟨rfl,rfl⟩|⟨rfl,rfl⟩
   .exact xV (show TM M 155=some (cO 194 5 40 [(.int .i64 0),(.int .i64 0),(.int .i64 0),(.bool false),(.int .i64 0)])by kernel_rfl) (a _ (by decide)) h2
   .exact xV (show TM M 156=some (cO 198 5 40 [(.int .i64 0),(.int .i64 0),(.int .i64 0),(.int .i64 0),(.bool false)])by kernel_rfl) (a _ (by decide)) h2
 .cases h
 .cases h
theorem nb_M (M:Mm):NBOK (TM M) NF40 P40 NW40.run:=cQ1 (cl:=clN) fun f p h=>by
 unfold clN at h
 cases hf157:Nat.beq f 157 with
 |true=>
  rw[hf157]at h
  cases h
  obtain rfl:=nG1 hf157
  exact⟨rfl,rfl,_,_,show TM M 157=some {cO 233 2 24 [(.string ⟨#[]⟩),(.int .i64 0)]with pure:=false}by kernel_rfl⟩
 |false=>
 rw[hf157]at h
 cases h
theorem zL:fQ Tryz.prog 26 [.agg (zJ 12 sc41.g)] (.v (.bool true)):=by
 refine xW tab0 fQ1 (xs:=[.agg sc41.g]) ?_ (cS1 (by kernel_rfl)) (by kernel_rfl)
 refine iN1 (NW:=NW40) (dC1 (M:=[]) (fun _ h=>by cases h)) (nb_M []) (tabM (M:=[]) (fun _ h=>by cases h)) 26 26 _ _ ?_
 rw[show Od (B40 false) NF40 NW40 P40 26 26 _=_ from ok26 0 sc41,show F26 sc41=some true by kernel_rfl]
 rfl
theorem wB:fQ Tryz.prog 26 [.agg (zJ 12 cU1.g)] (.v (.bool true)):=by
 refine xW tab0 fQ1 (xs:=[.agg cU1.g]) ?_ (cS1 (by kernel_rfl)) (by kernel_rfl)
 refine iN1 (NW:=NW40) (dC1 (M:=[]) (fun _ h=>by cases h)) (nb_M []) (tabM (M:=[]) (fun _ h=>by cases h)) 26 26 _ _ ?_
 rw[show Od (B40 false) NF40 NW40 P40 26 26 _=_ from ok26 0 cU1,show F26 cU1=some true by kernel_rfl]
 rfl
abbrev M2:Mm:=[(26,[.agg (zJ 12 sc41.g)],.v (.bool true)),(26,[.agg (zJ 12 cU1.g)],.v (.bool true))]
abbrev T2:Tab:=⟨fun f=>(tl2[f]?).join,oU M2⟩
theorem tab2:eK Tryz.prog T2:=fE.tab (M:=M2) all2 ⟨zL,wB,trivial⟩
theorem dD1:runP T2 (exec T2 300) 5 ix5 []=some (.v (.bool true)):=by kernel_rfl
theorem wC:fQ Tryz.prog 5 [] (.v (.bool true)):=qY (fn:=ix5) tab2 fQ1 (by kernel_rfl) rfl rfl dD1
theorem kY1:eK Tryz.prog TBL:=fE.tab (M:=MK) all1 ⟨wC,trivial⟩
theorem iY1:∀f xs v,NF40 f=false->B40 true f xs=some v->FnOK TBL f xs v:=by
 intro f xs v hf h
 by_cases a:xs=[]/\f=5
 .obtain ⟨rfl,rfl⟩:=a
  cases h
  exact fN1 (fn:=ix5) (by kernel_rfl) rfl rfl rfl
 .refine dC1 gQ1 f xs v hf ?_
  unfold B40 at h ⊢
  split at h
  .exact h
  .cases hc:Nat.beq f 5 with
   |false=>rw[hc]at h;cases h
   |true=>exact(a ⟨rfl,nG1 hc⟩).elim
  .cases h
end
end Go.P
namespace Go.P
open Go.Sim Go.Proofs
theorem y48 {D:Nat} {cs:List AV} (h:TyC Tryz.prog D 48 cs):∃x:Zz,(fun _=>True) x/\LR (RC false) x.g cs:=by
 obtain⟨D,h⟩:=cV Tryz.underlying48 h
 obtain⟨c0,d,rfl,_,h0,c1,f,rfl,_,h1,e⟩:=h
 subst e
 obtain⟨a,b⟩:=rInt (by kernel_rfl) h0
 obtain⟨a1,c⟩:=rInt (by kernel_rfl) h1
 exact⟨⟨a,a1⟩,trivial,(b.append (c.append .nil))⟩
theorem y50 {D:Nat} {cs:List AV} (h:TyC Tryz.prog D 50 cs):∃x:Zl,(fun _=>True) x/\LR (RC false) x.g cs:=by
 obtain⟨D,h⟩:=cV Tryz.underlying50 h
 obtain⟨c0,d,rfl,_,h0,c1,f,rfl,_,h1,e⟩:=h
 subst e
 obtain⟨a,b⟩:=rInt (by kernel_rfl) h0
 obtain⟨a1,c⟩:=rInt (by kernel_rfl) h1
 exact⟨⟨a,a1⟩,trivial,(b.append (c.append .nil))⟩
theorem y89 {D:Nat} {cs:List AV} (h:TyC Tryz.prog D 89 cs):∃x:Zf,(fun _=>True) x/\LR (RC false) x.g cs:=by
 obtain⟨D,h⟩:=cV Tryz.underlying89 h
 obtain⟨c0,f,rfl,_,h0,c1,i,rfl,_,h1,e⟩:=h
 subst e
 obtain⟨a,d,b⟩:=y48 h0
 obtain⟨a1,c⟩:=rInt (by kernel_rfl) h1
 exact⟨⟨a,a1⟩,trivial,(b.append (c.append .nil))⟩
theorem y53 {D:Nat} {cs:List AV} (h:TyC Tryz.prog D 53 cs):∃x:Zj,(fun _=>True) x/\LR (RC false) x.g cs:=by
 obtain⟨D,h⟩:=cV Tryz.underlying53 h
 obtain⟨c0,l,rfl,_,h0,c1,n,rfl,_,h1,c2,o,rfl,_,h2,c3,p,rfl,_,b,e⟩:=h
 subst e
 obtain⟨a,k,d⟩:=y48 h0
 obtain⟨a1,b1,f⟩:=rStr (by kernel_rfl) h1
 obtain⟨a2,b2,i⟩:=y50 h2
 obtain⟨a3,⟨b3,c3⟩,j⟩:=rSl (B:=fun _=>True) (c:=Zf.g) (m:=3) (by kernel_rfl) (by kernel_rfl) (fun _ _ h=>y89 h) (fun _=>rfl) b
 exact⟨⟨a,a1,a2,a3⟩,trivial,(d.append (f.append (i.append (j.append .nil))))⟩
theorem y54 {D:Nat} {cs:List AV} (h:TyC Tryz.prog D 54 cs):∃x:Z6,True/\LR (RC false) x.g cs:=by
 obtain⟨D,rows,rfl,hl,h⟩:=rArr (n:=6) (e:=3) (by kernel_rfl) h
 obtain⟨f,i,j,k,l,m,rfl⟩:=lP1 hl
 obtain⟨a,h0⟩:=rInt (by kernel_rfl) (h f (by simp)).2
 obtain⟨a1,h1⟩:=rInt (by kernel_rfl) (h i (by simp)).2
 obtain⟨a2,h2⟩:=rInt (by kernel_rfl) (h j (by simp)).2
 obtain⟨a3,b⟩:=rInt (by kernel_rfl) (h k (by simp)).2
 obtain⟨a4,c⟩:=rInt (by kernel_rfl) (h l (by simp)).2
 obtain⟨a5,d⟩:=rInt (by kernel_rfl) (h m (by simp)).2
 exact⟨⟨a,a1,a2,a3,a4,a5⟩,trivial,(h0.append (h1.append (h2.append (b.append (c.append (d.append .nil))))))⟩
theorem y56 {D:Nat} {cs:List AV} (h:TyC Tryz.prog D 56 cs):∃x:Zx,(fun _=>True) x/\LR (RC false) x.g cs:=by
 obtain⟨D,h⟩:=cV Tryz.underlying56 h
 obtain⟨c0,f,rfl,_,h0,c1,i,rfl,_,h1,c2,j,rfl,_,h2,e⟩:=h
 subst e
 obtain⟨a,b⟩:=rInt (by kernel_rfl) h0
 obtain⟨a1,c⟩:=rInt (by kernel_rfl) h1
 obtain⟨a2,b2,d⟩:=y54 h2
 exact⟨⟨a,a1,a2⟩,trivial,(b.append (c.append (d.append .nil)))⟩
theorem y167 {D:Nat} {cs:List AV} (h:TyC Tryz.prog D 167 cs):∃x:Zt,(fun _=>True) x/\LR (RC false) x.g cs:=by
 obtain⟨D,h⟩:=cV Tryz.underlying167 h
 obtain⟨c0,f,rfl,_,h0,c1,i,rfl,_,h1,c2,j,rfl,_,h2,e⟩:=h
 subst e
 obtain⟨a,b⟩:=rInt (by kernel_rfl) h0
 obtain⟨a1,c⟩:=rInt (by kernel_rfl) h1
 obtain⟨a2,d⟩:=cR1 (by kernel_rfl) h2
 exact⟨⟨a,a1,a2⟩,trivial,(b.append (c.append (d.append .nil)))⟩
theorem y96 {D:Nat} {cs:List AV} (h:TyC Tryz.prog D 96 cs):∃x:Zc,(fun _=>True) x/\LR (RC false) x.g cs:=by
 obtain⟨D,h⟩:=cV Tryz.underlying96 h
 obtain⟨c0,d,rfl,_,h0,c1,f,rfl,_,h1,e⟩:=h
 subst e
 obtain⟨a,b⟩:=rInt (by kernel_rfl) h0
 obtain⟨a1,c⟩:=rInt (by kernel_rfl) h1
 exact⟨⟨a,a1⟩,trivial,(b.append (c.append .nil))⟩
theorem y116 {D:Nat} {cs:List AV} (h:TyC Tryz.prog D 116 cs):∃x:Za,(fun _=>True) x/\LR (RC false) x.g cs:=by
 obtain⟨D,h⟩:=cV Tryz.underlying116 h
 obtain⟨c0,d,rfl,_,h0,c1,f,rfl,_,h1,e⟩:=h
 subst e
 obtain⟨a,b⟩:=rInt (by kernel_rfl) h0
 obtain⟨a1,c⟩:=rInt (by kernel_rfl) h1
 exact⟨⟨a,a1⟩,trivial,(b.append (c.append .nil))⟩
theorem y172 {D:Nat} {cs:List AV} (h:TyC Tryz.prog D 172 cs):∃x:Zh,(fun _=>True) x/\LR (RC false) x.g cs:=by
 obtain⟨D,h⟩:=cV Tryz.underlying172 h
 obtain⟨c0,f,rfl,_,h0,c1,i,rfl,_,h1,c2,j,rfl,_,h2,e⟩:=h
 subst e
 obtain⟨a,b⟩:=rInt (by kernel_rfl) h0
 obtain⟨a1,c⟩:=rInt (by kernel_rfl) h1
 obtain⟨a2,d⟩:=rInt (by kernel_rfl) h2
 exact⟨⟨a,a1,a2⟩,trivial,(b.append (c.append (d.append .nil)))⟩
theorem y194 {D:Nat} {cs:List AV} (h:TyC Tryz.prog D 194 cs):∃x:Zb,(fun _=>True) x/\LR (RC false) x.g cs:=by
 obtain⟨D,h⟩:=cV Tryz.underlying194 h
 obtain⟨c0,i,rfl,_,h0,c1,j,rfl,_,h1,c2,k,rfl,_,h2,e⟩:=h
 subst e
 obtain⟨a,f,b⟩:=y172 h0
 obtain⟨a1,c⟩:=cR1 (by kernel_rfl) h1
 obtain⟨a2,d⟩:=rInt (by kernel_rfl) h2
 exact⟨⟨a,a1,a2⟩,trivial,(b.append (c.append (d.append .nil)))⟩
theorem y198 {D:Nat} {cs:List AV} (h:TyC Tryz.prog D 198 cs):∃x:Zd,(fun _=>True) x/\LR (RC false) x.g cs:=by
 obtain⟨D,h⟩:=cV Tryz.underlying198 h
 obtain⟨c0,i,rfl,_,h0,c1,j,rfl,_,h1,c2,k,rfl,_,h2,e⟩:=h
 subst e
 obtain⟨a,f,b⟩:=y172 h0
 obtain⟨a1,c⟩:=rInt (by kernel_rfl) h1
 obtain⟨a2,d⟩:=cR1 (by kernel_rfl) h2
 exact⟨⟨a,a1,a2⟩,trivial,(b.append (c.append (d.append .nil)))⟩
theorem y233 {D:Nat} {cs:List AV} (h:TyC Tryz.prog D 233 cs):∃x:Zy,(fun _=>True) x/\LR (RC false) x.g cs:=by
 obtain⟨D,h⟩:=cV Tryz.underlying233 h
 obtain⟨c0,f,rfl,_,h0,c1,i,rfl,_,h1,e⟩:=h
 subst e
 obtain⟨a,d,b⟩:=rStr (by kernel_rfl) h0
 obtain⟨a1,c⟩:=rInt (by kernel_rfl) h1
 exact⟨⟨a,a1⟩,trivial,(b.append (c.append .nil))⟩
theorem y121 {D:Nat} {cs:List AV} (h:TyC Tryz.prog D 121 cs):∃x:Ze,(fun _=>True) x/\LR (RC false) x.g cs:=by
 obtain⟨D,h⟩:=cV Tryz.underlying121 h
 obtain⟨c0,H,rfl,_,h0,c1,J,rfl,_,h1,c2,K,rfl,_,h2,c3,L,rfl,_,j,c4,M,rfl,_,k,c5,N,rfl,_,l,c6,O,rfl,_,n,c7,P,rfl,_,o,c8,R,rfl,_,p,c9,S,rfl,_,q,c10,i,rfl,_,b,e⟩:=h
 subst e
 obtain⟨f,E,r⟩:=y48 h0
 obtain⟨a1,s⟩:=rInt (by kernel_rfl) h1
 obtain⟨a2,b2,t⟩:=y116 h2
 obtain⟨a3,⟨b3,c3⟩,u⟩:=rSl (B:=fun _=>True) (c:=Zb.g) (m:=5) (by kernel_rfl) (by kernel_rfl) (fun _ _ h=>y194 h) (fun _=>rfl) j
 obtain⟨a4,⟨F,c4⟩,v⟩:=rSl (B:=fun _=>True) (c:=Zd.g) (m:=5) (by kernel_rfl) (by kernel_rfl) (fun _ _ h=>y198 h) (fun _=>rfl) k
 obtain⟨a5,w⟩:=rInt (by kernel_rfl) l
 obtain⟨a6,y⟩:=rInt (by kernel_rfl) n
 obtain⟨a7,z⟩:=rInt (by kernel_rfl) o
 obtain⟨a8,⟨G,c8⟩,A⟩:=rSl (B:=fun _=>True) (c:=Zy.g) (m:=2) (by kernel_rfl) (by kernel_rfl) (fun _ _ h=>y233 h) (fun _=>rfl) p
 obtain⟨a9,C⟩:=rInt (by kernel_rfl) q
 obtain⟨a,d⟩:=rInt (by kernel_rfl) b
 exact⟨⟨f,a1,a2,a3,a4,a5,a6,a7,a8,a9,a⟩,trivial,(r.append (s.append (t.append (u.append (v.append (w.append (y.append (z.append (A.append (C.append (d.append .nil)))))))))))⟩
theorem y226 {D:Nat} {cs:List AV} (h:TyC Tryz.prog D 226 cs):∃x:Zu,(fun _=>True) x/\LR (RC false) x.g cs:=by
 obtain⟨D,h⟩:=cV Tryz.underlying226 h
 obtain⟨c0,j,rfl,_,h0,c1,k,rfl,_,h1,c2,l,rfl,_,h2,c3,m,rfl,_,b,e⟩:=h
 subst e
 obtain⟨a,c⟩:=rInt (by kernel_rfl) h0
 obtain⟨a1,d⟩:=rInt (by kernel_rfl) h1
 obtain⟨a2,f⟩:=rInt (by kernel_rfl) h2
 obtain⟨a3,i⟩:=rInt (by kernel_rfl) b
 exact⟨⟨a,a1,a2,a3⟩,trivial,(c.append (d.append (f.append (i.append .nil))))⟩
theorem y77 {D:Nat} {cs:List AV} (h:TyC Tryz.prog D 77 cs):∃x:Zo,(fun _=>True) x/\LR (RC false) x.g cs:=by
 obtain⟨D,h⟩:=cV Tryz.underlying77 h
 obtain⟨c0,i,rfl,_,h0,c1,j,rfl,_,h1,e⟩:=h
 subst e
 obtain⟨a,⟨f,c0⟩,b⟩:=rSl (B:=fun _=>True) (c:=Ze.g) (m:=13) (by kernel_rfl) (by kernel_rfl) (fun _ _ h=>y121 h) (fun _=>rfl) h0
 obtain⟨a1,⟨b1,c1⟩,d⟩:=rSl (B:=fun _=>True) (c:=Zu.g) (m:=4) (by kernel_rfl) (by kernel_rfl) (fun _ _ h=>y226 h) (fun _=>rfl) h1
 exact⟨⟨a,a1⟩,trivial,(b.append (d.append .nil))⟩
theorem y64 {D:Nat} {cs:List AV} (h:TyC Tryz.prog D 64 cs):∃x:Zw,(fun _=>True) x/\LR (RC false) x.g cs:=by
 obtain⟨D,h⟩:=cV Tryz.underlying64 h
 obtain⟨c0,i,rfl,_,h0,c1,j,rfl,_,h1,e⟩:=h
 subst e
 obtain⟨a,⟨f,c0⟩,b⟩:=rSl (B:=fun _=>True) (c:=Zc.g) (m:=2) (by kernel_rfl) (by kernel_rfl) (fun _ _ h=>y96 h) (fun _=>rfl) h0
 obtain⟨a1,⟨b1,c1⟩,d⟩:=rSl (B:=fun _=>True) (c:=Zo.g) (m:=2) (by kernel_rfl) (by kernel_rfl) (fun _ _ h=>y77 h) (fun _=>rfl) h1
 exact⟨⟨a,a1⟩,trivial,(b.append (d.append .nil))⟩
theorem y60 {D:Nat} {cs:List AV} (h:TyC Tryz.prog D 60 cs):∃x:Zm,(fun _=>True) x/\LR (RC false) x.g cs:=by
 obtain⟨D,h⟩:=cV Tryz.underlying60 h
 obtain⟨c0,W,rfl,_,h0,c1,X,rfl,_,h1,c2,Y,rfl,_,h2,c3,Z,rfl,_,A,c4,d4,rfl,_,C,c5,d5,rfl,_,E,c6,d6,rfl,_,F,c7,d7,rfl,_,G,c8,d8,rfl,_,H,c9,d9,rfl,_,J,c10,v,rfl,_,i,c11,w,rfl,_,j,c12,y,rfl,_,k,c13,z,rfl,_,l,e⟩:=h
 subst e
 obtain⟨r,V,K⟩:=y48 h0
 obtain⟨a1,b1,L⟩:=y56 h1
 obtain⟨a2,M⟩:=rInt (by kernel_rfl) h2
 obtain⟨a3,N⟩:=rInt (by kernel_rfl) A
 obtain⟨a4,O⟩:=cR1 (by kernel_rfl) C
 obtain⟨a5,P⟩:=rInt (by kernel_rfl) E
 obtain⟨a6,R⟩:=rInt (by kernel_rfl) F
 obtain⟨a7,S⟩:=rInt (by kernel_rfl) G
 obtain⟨a8,T⟩:=rInt (by kernel_rfl) H
 obtain⟨a9,U⟩:=rInt (by kernel_rfl) J
 obtain⟨a,n⟩:=rInt (by kernel_rfl) i
 obtain⟨b,s,o⟩:=rStr (by kernel_rfl) j
 obtain⟨d,⟨t,c12⟩,p⟩:=rSl (B:=fun _=>True) (c:=Zt.g) (m:=3) (by kernel_rfl) (by kernel_rfl) (fun _ _ h=>y167 h) (fun _=>rfl) k
 obtain⟨f,⟨u,c13⟩,q⟩:=rSl (B:=fun _=>True) (c:=Zw.g) (m:=2) (by kernel_rfl) (by kernel_rfl) (fun _ _ h=>y64 h) (fun _=>rfl) l
 exact⟨⟨r,a1,a2,a3,a4,a5,a6,a7,a8,a9,a,b,d,f⟩,trivial,(K.append (L.append (M.append (N.append (O.append (P.append (R.append (S.append (T.append (U.append (n.append (o.append (p.append (q.append .nil))))))))))))))⟩
theorem y100 {D:Nat} {cs:List AV} (h:TyC Tryz.prog D 100 cs):∃x:Zn,(fun _=>True) x/\LR (RC false) x.g cs:=by
 obtain⟨D,h⟩:=cV Tryz.underlying100 h
 obtain⟨c0,k,rfl,_,h0,c1,l,rfl,_,h1,c2,m,rfl,_,h2,c3,n,rfl,_,b,e⟩:=h
 subst e
 obtain⟨a,j,c⟩:=y48 h0
 obtain⟨a1,d⟩:=rInt (by kernel_rfl) h1
 obtain⟨a2,b2,f⟩:=y48 h2
 obtain⟨a3,b3,i⟩:=y48 b
 exact⟨⟨a,a1,a2,a3⟩,trivial,(c.append (d.append (f.append (i.append .nil))))⟩
theorem y31 {D:Nat} {cs:List AV} (h:TyC Tryz.prog D 31 cs):∃x:Z0,(fun _=>True) x/\LR (RC false) x.g cs:=by
 obtain⟨D,h⟩:=cV Tryz.underlying31 h
 obtain⟨c0,s,rfl,_,h0,c1,t,rfl,_,h1,c2,u,rfl,_,h2,c3,v,rfl,_,b,c4,w,rfl,_,d,c5,y,rfl,_,f,e⟩:=h
 subst e
 obtain⟨a,p,i⟩:=rStr (by kernel_rfl) h0
 obtain⟨a1,j⟩:=cR1 (by kernel_rfl) h1
 obtain⟨a2,⟨b2,c2⟩,k⟩:=rSl (B:=fun _=>True) (c:=Zj.g) (m:=6) (by kernel_rfl) (by kernel_rfl) (fun _ _ h=>y53 h) (fun _=>rfl) h2
 obtain⟨a3,⟨b3,c3⟩,l⟩:=rSl (B:=fun _=>True) (c:=Zm.g) (m:=22) (by kernel_rfl) (by kernel_rfl) (fun _ _ h=>y60 h) (fun _=>rfl) b
 obtain⟨a4,⟨q,c4⟩,n⟩:=rSl (B:=fun _=>True) (c:=Zn.g) (m:=7) (by kernel_rfl) (by kernel_rfl) (fun _ _ h=>y100 h) (fun _=>rfl) d
 obtain⟨a5,⟨r,c5⟩,o⟩:=rSl (B:=fun _=>True) (c:=Zz.g) (m:=2) (by kernel_rfl) (by kernel_rfl) (fun _ _ h=>y48 h) (fun _=>rfl) f
 exact⟨⟨a,a1,a2,a3,a4,a5⟩,trivial,(i.append (j.append (k.append (l.append (n.append (o.append .nil))))))⟩
end Go.P
