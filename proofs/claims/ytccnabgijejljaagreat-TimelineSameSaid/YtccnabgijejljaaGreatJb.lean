import Derived.Test.YtccnabgijejljaaGreatPl
import Derived.Test.YtccnabgijejljaaGreatTb
import Derived.Test.YtccnabgijejljaaGreatRows
import Derived.KernelRfl
/- A text of the proof. -/
set_option linter.all false
set_option maxRecDepth 100000
set_option maxHeartbeats 2000000
namespace Go.P
open Go.Sim (fI fO eH IFn Tab)
theorem wG {f e:Nat} (h:cl40 f e=true):(f=180/\e=5)\/(f=181/\e=5)\/(f=182/\e=2):=by
 unfold cl40 at h
 simp only[Bool.and_eq_true,dF]at h
 obtain⟨h1,a⟩:=h
 have a:=Nat.eq_of_beq_eq_true a
 simp at h1
 rcases h1 with rfl|rfl|rfl<;>simp[a]
theorem vA:∀f xs v,NF40 f=false->B40 false f xs=some v->FnOK T40 f xs v:=by
 intro f xs v _ h
 unfold B40 at h
 split at h
 .rename_i e rows
  cases hc:(cl40 f e&&Nat.ble rows.length 1073741824)with
  |false=>rw[hc]at h;cases h
  |true=>
   rw[hc]at h
   cases h
   simp only[Bool.and_eq_true]at hc
   obtain⟨h1,h2⟩:=hc
   have h2:=Nat.le_of_ble_eq_true h2
   rcases wG h1 with⟨rfl,rfl⟩|⟨rfl,rfl⟩|⟨rfl,rfl⟩
   .exact pK (show T40 180=some (fH 77 5 40 [(.int .i64 0),(.int .i64 0),(.int .i64 0),(.bool false),(.int .i64 0)])by kernel_rfl) h2
   .exact pK (show T40 181=some (fH 154 5 40 [(.int .i64 0),(.int .i64 0),(.int .i64 0),(.int .i64 0),(.bool false)])by kernel_rfl) h2
   .exact pK (show T40 182=some (fH 221 2 24 [(.string ⟨#[]⟩),(.int .i64 0)])by kernel_rfl) h2
 .cases h
 .cases h
theorem tJ:FnOK T40 23 [.agg sc17.g] (bv true):=by
 refine gR1 (NW:=NW40) vA gV1 26 23 _ _ ?_
 rw[show Od (B40 false) NF40 NW40 P40 26 23 _=_ from ok23 0 sc17,show F23 sc17=some true by kernel_rfl]
 rfl
theorem bY1:FnOK T40 6 [] (bv true):=
 eW1 (fn:=ix6) (by kernel_rfl) rfl rfl (Go.Sim.good_of (l:=[⟨23,[.agg (eX1 12 sc17.g)],true,.v (.bool true)⟩]) (d:=200) (by kernel_rfl) (.cons (eV1 tJ (eY1 (by kernel_rfl))) .nil))
theorem fB1:∀f xs v,NF40 f=false->B40 true f xs=some v->FnOK T40 f xs v:=by
 intro f xs v hf h
 by_cases a:xs=[]/\f=6
 .obtain ⟨rfl,rfl⟩:=a
  cases h
  exact bY1
 .refine vA f xs v hf ?_
  unfold B40 at h ⊢
  split at h
  .exact h
  .cases hc:Nat.beq f 6 with
   |false=>rw[hc]at h;cases h
   |true=>exact(a ⟨rfl,Nat.eq_of_beq_eq_true hc⟩).elim
  .cases h
end Go.P
namespace Go.P
open Go.Sim Go.Proofs
theorem y24 {D:Nat} {cs:List AV} (h:TyC Tryz.prog D 24 cs):∃x:Zz,(fun _=>True) x/\LR (RC false) x.g cs:=by
 obtain⟨D,h⟩:=zN Tryz.underlying24 h
 obtain⟨c0,d,rfl,_,h0,c1,f,rfl,_,h1,e⟩:=h
 subst e
 obtain⟨a,b⟩:=rInt (by kernel_rfl) h0
 obtain⟨a1,c⟩:=rInt (by kernel_rfl) h1
 exact⟨⟨a,a1⟩,trivial,(b.append (c.append .nil))⟩
theorem y26 {D:Nat} {cs:List AV} (h:TyC Tryz.prog D 26 cs):∃x:aG,(fun _=>True) x/\LR (RC false) x.g cs:=by
 obtain⟨D,h⟩:=zN Tryz.underlying26 h
 obtain⟨c0,s,rfl,_,h0,c1,t,rfl,_,h1,c2,u,rfl,_,h2,c3,v,rfl,_,b,c4,w,rfl,_,c,c5,y,rfl,_,d,c6,z,rfl,_,f,c7,A,rfl,_,i,e⟩:=h
 subst e
 obtain⟨a,j⟩:=rInt (by kernel_rfl) h0
 obtain⟨a1,k⟩:=rInt (by kernel_rfl) h1
 obtain⟨a2,l⟩:=rInt (by kernel_rfl) h2
 obtain⟨a3,m⟩:=rInt (by kernel_rfl) b
 obtain⟨a4,n⟩:=rInt (by kernel_rfl) c
 obtain⟨a5,o⟩:=rInt (by kernel_rfl) d
 obtain⟨a6,r,p⟩:=y24 f
 obtain⟨a7,q⟩:=rInt (by kernel_rfl) i
 exact⟨⟨a,a1,a2,a3,a4,a5,a6,a7⟩,trivial,(j.append (k.append (l.append (m.append (n.append (o.append (p.append (q.append .nil))))))))⟩
end Go.P
