import Derived.Test.YtflklffaiianhaaGreatPl
import Derived.Test.YtflklffaiianhaaGreatTb
import Derived.Test.YtflklffaiianhaaGreatRows
import Derived.KernelRfl
/- A text of the proof. -/
set_option linter.all false
set_option maxRecDepth 100000
set_option maxHeartbeats 2000000
namespace Go.P
open Go.Sim (gB gH fA IFn Tab)
theorem xI {f e:Nat} (h:cl40 f e=true):(f=233/\e=5)\/(f=234/\e=5)\/(f=235/\e=2):=by
 unfold cl40 at h
 simp only[Bool.and_eq_true,dU]at h
 obtain⟨h1,a⟩:=h
 have a:=Nat.eq_of_beq_eq_true a
 simp at h1
 rcases h1 with rfl|rfl|rfl<;>simp[a]
theorem qG:∀f xs v,NF40 f=false->B40 f xs=some v->FnOK T40 f xs v:=by
 intro f xs v _ h
 unfold B40 at h
 split at h
 .rename_i e rows
  cases hc:(cl40 f e&&Nat.ble rows.length 1073741824)with
  |false=>rw[hc]at h;cases h
  |true=>
   rw[hc]at h
   cases h
   simp only[Bool.and_eq_true]at hc
   obtain⟨h1,h2⟩:=hc
   have h2:=Nat.le_of_ble_eq_true h2
   rcases xI h1 with⟨rfl,rfl⟩|⟨rfl,rfl⟩|⟨rfl,rfl⟩
   .exact qC (show T40 233=some (gA 138 5 40 [(.int .i64 0),(.int .i64 0),(.int .i64 0),(.bool false),(.int .i64 0)])by kernel_rfl) h2
   .exact qC (show T40 234=some (gA 197 5 40 [(.int .i64 0),(.int .i64 0),(.int .i64 0),(.int .i64 0),(.bool false)])by kernel_rfl) h2
   .exact qC (show T40 235=some (gA 140 2 24 [(.string ⟨#[]⟩),(.int .i64 0)])by kernel_rfl) h2
 .cases hc:Nat.beq f 32 with
  |false=>rw[hc]at h;cases h
  |true=>
   rw[hc]at h
   cases h
   rw[Nat.eq_of_beq_eq_true hc]
   exact iJ1 (fn:=i32) (D:=60) (by kernel_rfl) (by kernel_rfl)
 .cases h
end Go.P
namespace Go.P
open Go.Sim Go.Proofs
theorem y53 {D:Nat} {cs:List AV} (h:TyC Tryz.prog D 53 cs):∃x:Zz,(fun _=>True) x/\LR (RC false) x.g cs:=by
 obtain⟨D,h⟩:=cK Tryz.underlying53 h
 obtain⟨c0,d,rfl,_,h0,c1,f,rfl,_,h1,e⟩:=h
 subst e
 obtain⟨a,b⟩:=rInt (by kernel_rfl) h0
 obtain⟨a1,c⟩:=rInt (by kernel_rfl) h1
 exact⟨⟨a,a1⟩,trivial,(b.append (c.append .nil))⟩
theorem y74 {D:Nat} {cs:List AV} (h:TyC Tryz.prog D 74 cs):∃x:Zl,(fun _=>True) x/\LR (RC false) x.g cs:=by
 obtain⟨D,h⟩:=cK Tryz.underlying74 h
 obtain⟨c0,d,rfl,_,h0,c1,f,rfl,_,h1,e⟩:=h
 subst e
 obtain⟨a,b⟩:=rInt (by kernel_rfl) h0
 obtain⟨a1,c⟩:=rInt (by kernel_rfl) h1
 exact⟨⟨a,a1⟩,trivial,(b.append (c.append .nil))⟩
theorem y134 {D:Nat} {cs:List AV} (h:TyC Tryz.prog D 134 cs):∃x:Zf,(fun _=>True) x/\LR (RC false) x.g cs:=by
 obtain⟨D,h⟩:=cK Tryz.underlying134 h
 obtain⟨c0,f,rfl,_,h0,c1,i,rfl,_,h1,e⟩:=h
 subst e
 obtain⟨a,d,b⟩:=y53 h0
 obtain⟨a1,c⟩:=rInt (by kernel_rfl) h1
 exact⟨⟨a,a1⟩,trivial,(b.append (c.append .nil))⟩
theorem y77 {D:Nat} {cs:List AV} (h:TyC Tryz.prog D 77 cs):∃x:Zj,(fun x=>x.b) x/\LR (RC false) x.g cs:=by
 obtain⟨D,h⟩:=cK Tryz.underlying77 h
 obtain⟨c0,n,rfl,_,h0,c1,o,rfl,_,h1,c2,p,rfl,_,h2,c3,q,rfl,_,d,e⟩:=h
 subst e
 obtain⟨a,l,f⟩:=y53 h0
 obtain⟨a1,b1,i⟩:=rStr (by kernel_rfl) h1
 obtain⟨a2,b2,j⟩:=y74 h2
 obtain⟨a3,⟨b3,c3⟩,k⟩:=rSl (B:=fun _=>True) (c:=Zf.g) (m:=3) (by kernel_rfl) (by kernel_rfl) (fun _ _ h=>y134 h) (fun _=>rfl) d
 exact⟨⟨a,a1,a2,a3⟩,⟨lt62 b1,lt62 b3⟩,(f.append (i.append (j.append (k.append .nil))))⟩
theorem y54 {D:Nat} {cs:List AV} (h:TyC Tryz.prog D 54 cs):∃x:Z6,True/\LR (RC false) x.g cs:=by
 obtain⟨D,rows,rfl,hl,h⟩:=rArr (n:=6) (e:=3) (by kernel_rfl) h
 obtain⟨f,i,j,k,l,m,rfl⟩:=iI1 hl
 obtain⟨a,h0⟩:=rInt (by kernel_rfl) (h f (by simp)).2
 obtain⟨a1,h1⟩:=rInt (by kernel_rfl) (h i (by simp)).2
 obtain⟨a2,h2⟩:=rInt (by kernel_rfl) (h j (by simp)).2
 obtain⟨a3,b⟩:=rInt (by kernel_rfl) (h k (by simp)).2
 obtain⟨a4,c⟩:=rInt (by kernel_rfl) (h l (by simp)).2
 obtain⟨a5,d⟩:=rInt (by kernel_rfl) (h m (by simp)).2
 exact⟨⟨a,a1,a2,a3,a4,a5⟩,trivial,(h0.append (h1.append (h2.append (b.append (c.append (d.append .nil))))))⟩
theorem y56 {D:Nat} {cs:List AV} (h:TyC Tryz.prog D 56 cs):∃x:Zx,(fun _=>True) x/\LR (RC false) x.g cs:=by
 obtain⟨D,h⟩:=cK Tryz.underlying56 h
 obtain⟨c0,f,rfl,_,h0,c1,i,rfl,_,h1,c2,j,rfl,_,h2,e⟩:=h
 subst e
 obtain⟨a,b⟩:=rInt (by kernel_rfl) h0
 obtain⟨a1,c⟩:=rInt (by kernel_rfl) h1
 obtain⟨a2,b2,d⟩:=y54 h2
 exact⟨⟨a,a1,a2⟩,trivial,(b.append (c.append (d.append .nil)))⟩
theorem y100 {D:Nat} {cs:List AV} (h:TyC Tryz.prog D 100 cs):∃x:Zt,(fun _=>True) x/\LR (RC false) x.g cs:=by
 obtain⟨D,h⟩:=cK Tryz.underlying100 h
 obtain⟨c0,f,rfl,_,h0,c1,i,rfl,_,h1,c2,j,rfl,_,h2,e⟩:=h
 subst e
 obtain⟨a,b⟩:=rInt (by kernel_rfl) h0
 obtain⟨a1,c⟩:=rInt (by kernel_rfl) h1
 obtain⟨a2,d⟩:=aM1 (by kernel_rfl) h2
 exact⟨⟨a,a1,a2⟩,trivial,(b.append (c.append (d.append .nil)))⟩
theorem y102 {D:Nat} {cs:List AV} (h:TyC Tryz.prog D 102 cs):∃x:Zc,(fun _=>True) x/\LR (RC false) x.g cs:=by
 obtain⟨D,h⟩:=cK Tryz.underlying102 h
 obtain⟨c0,d,rfl,_,h0,c1,f,rfl,_,h1,e⟩:=h
 subst e
 obtain⟨a,b⟩:=rInt (by kernel_rfl) h0
 obtain⟨a1,c⟩:=rInt (by kernel_rfl) h1
 exact⟨⟨a,a1⟩,trivial,(b.append (c.append .nil))⟩
theorem y104 {D:Nat} {cs:List AV} (h:TyC Tryz.prog D 104 cs):∃x:Za,(fun _=>True) x/\LR (RC false) x.g cs:=by
 obtain⟨D,h⟩:=cK Tryz.underlying104 h
 obtain⟨c0,d,rfl,_,h0,c1,f,rfl,_,h1,e⟩:=h
 subst e
 obtain⟨a,b⟩:=rInt (by kernel_rfl) h0
 obtain⟨a1,c⟩:=rInt (by kernel_rfl) h1
 exact⟨⟨a,a1⟩,trivial,(b.append (c.append .nil))⟩
theorem y136 {D:Nat} {cs:List AV} (h:TyC Tryz.prog D 136 cs):∃x:Zh,(fun _=>True) x/\LR (RC false) x.g cs:=by
 obtain⟨D,h⟩:=cK Tryz.underlying136 h
 obtain⟨c0,f,rfl,_,h0,c1,i,rfl,_,h1,c2,j,rfl,_,h2,e⟩:=h
 subst e
 obtain⟨a,b⟩:=rInt (by kernel_rfl) h0
 obtain⟨a1,c⟩:=rInt (by kernel_rfl) h1
 obtain⟨a2,d⟩:=rInt (by kernel_rfl) h2
 exact⟨⟨a,a1,a2⟩,trivial,(b.append (c.append (d.append .nil)))⟩
theorem y138 {D:Nat} {cs:List AV} (h:TyC Tryz.prog D 138 cs):∃x:Zb,(fun _=>True) x/\LR (RC false) x.g cs:=by
 obtain⟨D,h⟩:=cK Tryz.underlying138 h
 obtain⟨c0,i,rfl,_,h0,c1,j,rfl,_,h1,c2,k,rfl,_,h2,e⟩:=h
 subst e
 obtain⟨a,f,b⟩:=y136 h0
 obtain⟨a1,c⟩:=aM1 (by kernel_rfl) h1
 obtain⟨a2,d⟩:=rInt (by kernel_rfl) h2
 exact⟨⟨a,a1,a2⟩,trivial,(b.append (c.append (d.append .nil)))⟩
theorem y197 {D:Nat} {cs:List AV} (h:TyC Tryz.prog D 197 cs):∃x:Zd,(fun _=>True) x/\LR (RC false) x.g cs:=by
 obtain⟨D,h⟩:=cK Tryz.underlying197 h
 obtain⟨c0,i,rfl,_,h0,c1,j,rfl,_,h1,c2,k,rfl,_,h2,e⟩:=h
 subst e
 obtain⟨a,f,b⟩:=y136 h0
 obtain⟨a1,c⟩:=rInt (by kernel_rfl) h1
 obtain⟨a2,d⟩:=aM1 (by kernel_rfl) h2
 exact⟨⟨a,a1,a2⟩,trivial,(b.append (c.append (d.append .nil)))⟩
theorem y140 {D:Nat} {cs:List AV} (h:TyC Tryz.prog D 140 cs):∃x:Zy,(fun x=>x.b) x/\LR (RC false) x.g cs:=by
 obtain⟨D,h⟩:=cK Tryz.underlying140 h
 obtain⟨c0,i,rfl,_,h0,c1,j,rfl,_,h1,e⟩:=h
 subst e
 obtain⟨a,c,d⟩:=rStr (by kernel_rfl) h0
 obtain⟨a1,f⟩:=rInt (by kernel_rfl) h1
 exact⟨⟨a,a1⟩,⟨lt62 c⟩,(d.append (f.append .nil))⟩
theorem y109 {D:Nat} {cs:List AV} (h:TyC Tryz.prog D 109 cs):∃x:Ze,(fun x=>x.b) x/\LR (RC false) x.g cs:=by
 obtain⟨D,h⟩:=cK Tryz.underlying109 h
 obtain⟨c0,J,rfl,_,h0,c1,K,rfl,_,h1,c2,L,rfl,_,h2,c3,M,rfl,_,n,c4,N,rfl,_,o,c5,O,rfl,_,p,c6,P,rfl,_,q,c7,R,rfl,_,r,c8,S,rfl,_,s,c9,T,rfl,_,t,c10,l,rfl,_,d,e⟩:=h
 subst e
 obtain⟨i,H,u⟩:=y53 h0
 obtain⟨a1,v⟩:=rInt (by kernel_rfl) h1
 obtain⟨a2,b2,w⟩:=y104 h2
 obtain⟨a3,⟨b3,c3⟩,y⟩:=rSl (B:=fun _=>True) (c:=Zb.g) (m:=5) (by kernel_rfl) (by kernel_rfl) (fun _ _ h=>y138 h) (fun _=>rfl) n
 obtain⟨a4,⟨j,c4⟩,z⟩:=rSl (B:=fun _=>True) (c:=Zd.g) (m:=5) (by kernel_rfl) (by kernel_rfl) (fun _ _ h=>y197 h) (fun _=>rfl) o
 obtain⟨a5,A⟩:=rInt (by kernel_rfl) p
 obtain⟨a6,C⟩:=rInt (by kernel_rfl) q
 obtain⟨a7,E⟩:=rInt (by kernel_rfl) r
 obtain⟨a8,⟨k,c8⟩,F⟩:=rSl (B:=fun x=>x.b) (c:=Zy.g) (m:=2) (by kernel_rfl) (by kernel_rfl) (fun _ _ h=>y140 h) (fun _=>rfl) s
 obtain⟨a9,G⟩:=rInt (by kernel_rfl) t
 obtain⟨a,f⟩:=rInt (by kernel_rfl) d
 exact⟨⟨i,a1,a2,a3,a4,a5,a6,a7,a8,a9,a⟩,⟨lt62 b3,lt62 j,lt62 k,c8⟩,(u.append (v.append (w.append (y.append (z.append (A.append (C.append (E.append (F.append (G.append (f.append .nil)))))))))))⟩
theorem y319 {D:Nat} {cs:List AV} (h:TyC Tryz.prog D 319 cs):∃x:Zu,(fun _=>True) x/\LR (RC false) x.g cs:=by
 obtain⟨D,h⟩:=cK Tryz.underlying319 h
 obtain⟨c0,j,rfl,_,h0,c1,k,rfl,_,h1,c2,l,rfl,_,h2,c3,m,rfl,_,b,e⟩:=h
 subst e
 obtain⟨a,c⟩:=rInt (by kernel_rfl) h0
 obtain⟨a1,d⟩:=rInt (by kernel_rfl) h1
 obtain⟨a2,f⟩:=rInt (by kernel_rfl) h2
 obtain⟨a3,i⟩:=rInt (by kernel_rfl) b
 exact⟨⟨a,a1,a2,a3⟩,trivial,(c.append (d.append (f.append (i.append .nil))))⟩
theorem y86 {D:Nat} {cs:List AV} (h:TyC Tryz.prog D 86 cs):∃x:Zo,(fun x=>x.b) x/\LR (RC false) x.g cs:=by
 obtain⟨D,h⟩:=cK Tryz.underlying86 h
 obtain⟨c0,j,rfl,_,h0,c1,k,rfl,_,h1,e⟩:=h
 subst e
 obtain⟨a,⟨d,c0⟩,f⟩:=rSl (B:=fun x=>x.b) (c:=Ze.g) (m:=13) (by kernel_rfl) (by kernel_rfl) (fun _ _ h=>y109 h) (fun _=>rfl) h0
 obtain⟨a1,⟨b1,c1⟩,i⟩:=rSl (B:=fun _=>True) (c:=Zu.g) (m:=4) (by kernel_rfl) (by kernel_rfl) (fun _ _ h=>y319 h) (fun _=>rfl) h1
 exact⟨⟨a,a1⟩,⟨lt62 d,c0,lt62 b1⟩,(f.append (i.append .nil))⟩
theorem y81 {D:Nat} {cs:List AV} (h:TyC Tryz.prog D 81 cs):∃x:Zw,(fun x=>x.b) x/\LR (RC false) x.g cs:=by
 obtain⟨D,h⟩:=cK Tryz.underlying81 h
 obtain⟨c0,j,rfl,_,h0,c1,k,rfl,_,h1,e⟩:=h
 subst e
 obtain⟨a,⟨d,c0⟩,f⟩:=rSl (B:=fun _=>True) (c:=Zc.g) (m:=2) (by kernel_rfl) (by kernel_rfl) (fun _ _ h=>y102 h) (fun _=>rfl) h0
 obtain⟨a1,⟨b1,c1⟩,i⟩:=rSl (B:=fun x=>x.b) (c:=Zo.g) (m:=2) (by kernel_rfl) (by kernel_rfl) (fun _ _ h=>y86 h) (fun _=>rfl) h1
 exact⟨⟨a,a1⟩,⟨lt62 d,lt62 b1,c1⟩,(f.append (i.append .nil))⟩
theorem y60 {D:Nat} {cs:List AV} (h:TyC Tryz.prog D 60 cs):∃x:Zm,(fun x=>x.b) x/\LR (RC false) x.g cs:=by
 obtain⟨D,h⟩:=cK Tryz.underlying60 h
 obtain⟨c0,X,rfl,_,h0,c1,Y,rfl,_,h1,c2,Z,rfl,_,h2,c3,d3,rfl,_,C,c4,d4,rfl,_,E,c5,d5,rfl,_,F,c6,d6,rfl,_,G,c7,d7,rfl,_,H,c8,d8,rfl,_,J,c9,d9,rfl,_,K,c10,w,rfl,_,n,c11,y,rfl,_,o,c12,z,rfl,_,p,c13,A,rfl,_,q,e⟩:=h
 subst e
 obtain⟨v,W,L⟩:=y53 h0
 obtain⟨a1,b1,M⟩:=y56 h1
 obtain⟨a2,N⟩:=rInt (by kernel_rfl) h2
 obtain⟨a3,O⟩:=rInt (by kernel_rfl) C
 obtain⟨a4,P⟩:=aM1 (by kernel_rfl) E
 obtain⟨a5,R⟩:=rInt (by kernel_rfl) F
 obtain⟨a6,S⟩:=rInt (by kernel_rfl) G
 obtain⟨a7,T⟩:=rInt (by kernel_rfl) H
 obtain⟨a8,U⟩:=rInt (by kernel_rfl) J
 obtain⟨a9,V⟩:=rInt (by kernel_rfl) K
 obtain⟨a,r⟩:=rInt (by kernel_rfl) n
 obtain⟨d,j,s⟩:=rStr (by kernel_rfl) o
 obtain⟨f,⟨k,c12⟩,t⟩:=rSl (B:=fun _=>True) (c:=Zt.g) (m:=3) (by kernel_rfl) (by kernel_rfl) (fun _ _ h=>y100 h) (fun _=>rfl) p
 obtain⟨i,⟨l,c13⟩,u⟩:=rSl (B:=fun x=>x.b) (c:=Zw.g) (m:=2) (by kernel_rfl) (by kernel_rfl) (fun _ _ h=>y81 h) (fun _=>rfl) q
 exact⟨⟨v,a1,a2,a3,a4,a5,a6,a7,a8,a9,a,d,f,i⟩,⟨lt62 j,lt62 k,lt62 l,c13⟩,(L.append (M.append (N.append (O.append (P.append (R.append (S.append (T.append (U.append (V.append (r.append (s.append (t.append (u.append .nil))))))))))))))⟩
theorem y71 {D:Nat} {cs:List AV} (h:TyC Tryz.prog D 71 cs):∃x:Zn,(fun _=>True) x/\LR (RC false) x.g cs:=by
 obtain⟨D,h⟩:=cK Tryz.underlying71 h
 obtain⟨c0,k,rfl,_,h0,c1,l,rfl,_,h1,c2,m,rfl,_,h2,c3,n,rfl,_,b,e⟩:=h
 subst e
 obtain⟨a,j,c⟩:=y53 h0
 obtain⟨a1,d⟩:=rInt (by kernel_rfl) h1
 obtain⟨a2,b2,f⟩:=y53 h2
 obtain⟨a3,b3,i⟩:=y53 b
 exact⟨⟨a,a1,a2,a3⟩,trivial,(c.append (d.append (f.append (i.append .nil))))⟩
theorem y27 {D:Nat} {cs:List AV} (h:TyC Tryz.prog D 27 cs):∃x:Z0,(fun x=>x.b) x/\LR (RC false) x.g cs:=by
 obtain⟨D,h⟩:=cK Tryz.underlying27 h
 obtain⟨c0,t,rfl,_,h0,c1,u,rfl,_,h1,c2,v,rfl,_,h2,c3,w,rfl,_,j,c4,y,rfl,_,k,c5,z,rfl,_,l,e⟩:=h
 subst e
 obtain⟨a,d,n⟩:=rStr (by kernel_rfl) h0
 obtain⟨a1,o⟩:=aM1 (by kernel_rfl) h1
 obtain⟨a2,⟨b2,c2⟩,p⟩:=rSl (B:=fun x=>x.b) (c:=Zj.g) (m:=6) (by kernel_rfl) (by kernel_rfl) (fun _ _ h=>y77 h) (fun _=>rfl) h2
 obtain⟨a3,⟨b3,c3⟩,q⟩:=rSl (B:=fun x=>x.b) (c:=Zm.g) (m:=22) (by kernel_rfl) (by kernel_rfl) (fun _ _ h=>y60 h) (fun _=>rfl) j
 obtain⟨a4,⟨f,c4⟩,r⟩:=rSl (B:=fun _=>True) (c:=Zn.g) (m:=7) (by kernel_rfl) (by kernel_rfl) (fun _ _ h=>y71 h) (fun _=>rfl) k
 obtain⟨a5,⟨i,c5⟩,s⟩:=rSl (B:=fun _=>True) (c:=Zz.g) (m:=2) (by kernel_rfl) (by kernel_rfl) (fun _ _ h=>y53 h) (fun _=>rfl) l
 exact⟨⟨a,a1,a2,a3,a4,a5⟩,⟨lt62 d,lt62 b2,c2,lt62 b3,c3,lt62 f,lt62 i⟩,(n.append (o.append (p.append (q.append (r.append (s.append .nil))))))⟩
end Go.P
