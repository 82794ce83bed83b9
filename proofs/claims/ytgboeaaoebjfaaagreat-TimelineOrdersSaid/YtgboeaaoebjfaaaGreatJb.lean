import Derived.Test.YtgboeaaoebjfaaaGreatPl
import Derived.Test.YtgboeaaoebjfaaaGreatTb
import Derived.Test.YtgboeaaoebjfaaaGreatRows
import Derived.KernelRfl
/- A text of the proof. -/
set_option linter.all false
set_option maxRecDepth 100000
set_option maxHeartbeats 2000000
namespace Go.P
open Go.Sim (dZ eR gN IFn Tab AV oE iD jS fZ runP exec qK)
open Go.Proofs
noncomputable section
theorem yT {f e:Nat} (h:cl40 f e=true):(f=170/\e=5)\/(f=171/\e=5)\/(f=172/\e=2):=by
 unfold cl40 at h
 simp only[lU1,dW]at h
 obtain⟨h1,a⟩:=h
 have a:=mI1 a
 simp at h1
 rcases h1 with rfl|rfl|rfl<;>simp[a]
theorem cR1 {M:Mm} (b:∀e∈M,e.1=7):∀f xs v,NF40 f=false->B40 false f xs=some v->FnOK (TM M) f xs v:=by
 intro f xs v _ h
 have a:∀f,f≠7->∀ys,(TM M).memo f ys=none:=fun f hf ys=>iD (fun e he h=>hf ((h.symm.trans (b e he)))) ys
 unfold B40 at h
 split at h
 .rename_i e rows
  cases hc:(cl40 f e&&Nat.ble rows.length 1073741824)with
  |false=>rw[hc]at h;cases h
  |true=>
   rw[hc]at h
   cases h
   simp only[lU1]at hc
   obtain⟨h1,h2⟩:=hc
   have h2:=mD1 h2
   rcases yT h1 with⟨rfl,rfl⟩|⟨rfl,rfl⟩|⟨rfl,rfl⟩
   .exact rJ (show TM M 170=some (dK 81 5 40 [(.int .i64 0),(.int .i64 0),(.int .i64 0),(.bool false),(.int .i64 0)])by kernel_rfl) (a _ (by decide)) h2
   .exact rJ (show TM M 171=some (dK 153 5 40 [(.int .i64 0),(.int .i64 0),(.int .i64 0),(.int .i64 0),(.bool false)])by kernel_rfl) (a _ (by decide)) h2
   .exact rJ (show TM M 172=some (dK 219 2 24 [(.string ⟨#[]⟩),(.int .i64 0)])by kernel_rfl) (a _ (by decide)) h2
 .cases h
 .cases h
theorem nb_C [Inhabited Rc] (M:Mm):NBOK (TM M) NF40 P40 (kC clN):=cG1 (cl:=clN) fun f p h=>by
 unfold clN at h
 cases h
theorem gJ1 (M:Mm) (c:∀e∈M,e.1=7):∀k,NBOK (TM M) NF40 P40 (@NW40 ⟨⟨Gsym k⟩⟩).run
 |0=>cB1 (@nb_C ⟨⟨Gsym 0⟩⟩ M) fun f xs h n v h' n' C s lim ys _ _ hk=>by
  obtain⟨_,_,a,b,_,_,hg,_⟩:=nY hk
  cases hg
 |k+1=>cB1 (@nb_C ⟨⟨Gsym 0⟩⟩ M)<|by
  obtain⟨d,g⟩:=iJ1 (P:=P40) (cR1 c) (gJ1 M c k) (tabM c) 3
  refine cC1 (fn:=p56) d g (f0:=56) (by kernel_rfl) (by rw[bY1];kernel_rfl) fun f xs h n v h' n' hk=>?_
  obtain⟨rfl,rfl,a,b,rfl,rfl,hg,he⟩:=nY hk
  cases he
  refine⟨rfl,rfl,?_⟩
  have hg:Fn56r (Gsym k) a.1 a.2.1 a.2.2.1 a.2.2.2=some b:=hg
  exact(@lN1 ⟨⟨Gsym k⟩⟩ false 0 a.1 a.2.1 a.2.2.1 a.2.2.2).trans ((congrArg (Option.map _) hg).trans rfl)
theorem nb_M (M:Mm) (a:∀e∈M,e.1=7:=by first|exact cQ1|(intro _ h;cases h)):NBOK (TM M) NF40 P40 NW40.run:=gJ1 M a 64
theorem yU:fZ Tryz.prog 19 [.agg (fH1 12 sc60.g)] (.v (.bool true)):=by
 refine fF1 tab0 iU1 (xs:=[.agg sc60.g]) ?_ (iQ1 (by kernel_rfl)) (by kernel_rfl)
 refine kQ1 (NW:=NW40) (cR1 (M:=[]) (fun _ h=>by cases h)) (nb_M []) (tabM (M:=[]) (fun _ h=>by cases h)) 26 19 _ _ ?_
 rw[show Od (B40 false) NF40 NW40 P40 26 19 _=_ from ok19 0 sc60,show F19 sc60=some true by kernel_rfl]
 rfl
abbrev M2:Mm:=[(19,[.agg (fH1 12 sc60.g)],.v (.bool true))]
abbrev T2:Tab:=⟨fun f=>(tl2[f]?).join,oE M2⟩
theorem tab2:dZ Tryz.prog T2:=eR.tab (M:=M2) all2 ⟨yU,trivial⟩
theorem cS1:runP T2 (exec T2 300) 7 ix7 []=some (.v (.bool true)):=by kernel_rfl
theorem vR:fZ Tryz.prog 7 [] (.v (.bool true)):=qK (fn:=ix7) tab2 iU1 (by kernel_rfl) rfl rfl cS1
theorem kV1:dZ Tryz.prog TBL:=eR.tab (M:=MK) all1 ⟨vR,trivial⟩
theorem iV1:∀f xs v,NF40 f=false->B40 true f xs=some v->FnOK TBL f xs v:=by
 intro f xs v hf h
 by_cases a:xs=[]/\f=7
 .obtain ⟨rfl,rfl⟩:=a
  cases h
  exact fG1 (fn:=ix7) (by kernel_rfl) rfl rfl rfl
 .refine cR1 cQ1 f xs v hf ?_
  unfold B40 at h ⊢
  split at h
  .exact h
  .cases hc:Nat.beq f 7 with
   |false=>rw[hc]at h;cases h
   |true=>exact(a ⟨rfl,mI1 hc⟩).elim
  .cases h
end
end Go.P
namespace Go.P
open Go.Sim Go.Proofs
theorem y25 {D:Nat} {cs:List AV} (h:TyC Tryz.prog D 25 cs):∃x:Zz,(fun _=>True) x/\LR (RC false) x.g cs:=by
 obtain⟨D,h⟩:=cH1 Tryz.underlying25 h
 obtain⟨c0,d0,rfl,_,h0,c1,d,rfl,_,h1,e⟩:=h
 subst e
 obtain⟨a,b⟩:=rInt (by kernel_rfl) h0
 obtain⟨a1,c⟩:=rInt (by kernel_rfl) h1
 exact⟨⟨a,a1⟩,trivial,(b.append (c.append .nil))⟩
theorem y27 {D:Nat} {cs:List AV} (h:TyC Tryz.prog D 27 cs):∃x:aE,(fun _=>True) x/\LR (RC false) x.g cs:=by
 obtain⟨D,h⟩:=cH1 Tryz.underlying27 h
 obtain⟨c0,d0,rfl,_,h0,c1,s,rfl,_,h1,c2,t,rfl,_,h2,c3,u,rfl,_,b,c4,v,rfl,_,c,c5,w,rfl,_,d,c6,y,rfl,_,f,c7,z,rfl,_,i,e⟩:=h
 subst e
 obtain⟨a,j⟩:=rInt (by kernel_rfl) h0
 obtain⟨a1,k⟩:=rInt (by kernel_rfl) h1
 obtain⟨a2,l⟩:=rInt (by kernel_rfl) h2
 obtain⟨a3,m⟩:=rInt (by kernel_rfl) b
 obtain⟨a4,n⟩:=rInt (by kernel_rfl) c
 obtain⟨a5,o⟩:=rInt (by kernel_rfl) d
 obtain⟨a6,r,p⟩:=y25 f
 obtain⟨a7,q⟩:=rInt (by kernel_rfl) i
 exact⟨⟨a,a1,a2,a3,a4,a5,a6,a7⟩,trivial,(j.append (k.append (l.append (m.append (n.append (o.append (p.append (q.append .nil))))))))⟩
end Go.P
