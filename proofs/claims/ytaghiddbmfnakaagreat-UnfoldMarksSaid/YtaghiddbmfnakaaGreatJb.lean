import Derived.Test.YtaghiddbmfnakaaGreatPl
import Derived.Test.YtaghiddbmfnakaaGreatTb
import Derived.Test.YtaghiddbmfnakaaGreatRows
import Derived.KernelRfl
/- A text of the proof. -/
set_option linter.all false
set_option maxRecDepth 100000
set_option maxHeartbeats 2000000
namespace Go.P
open Go.Sim (fP gM jF IFn gO AV pK mI nX jM runP exec xE)
open Go.Proofs
noncomputable section
theorem Ke {f e:Nat} (h:Th f e=true):(f=163/\e=5)\/(f=164/\e=5)\/(f=165/\e=2):=by
 unfold Th at h;simp only[iD2,gG]at h;obtain⟨h1,h3⟩:=h;have h3:=iW2 h3;simp at h1;rcases h1 with rfl|rfl|rfl<;>simp[h3]
theorem Wg {M:Mm} (b:∀e∈M,e.1=6):∀f xs v,jE f=false->Tj false f xs=some v->mO (TM M) f xs v:=by
 intro f xs v _ h;have a:∀f,f≠6->∀ys,(TM M).memo f ys=none:=fun f hf ys=>mI (fun e he h=>hf ((h.symm.trans (b e he)))) ys;unfold Tj at h;split at h;rename_i e rows;cases hc:(Th f e&&Nat.ble rows.length 1073741824)with
 |false=>rw[hc]at h;cases h
 |true=>
  rw[hc]at h;cases h;simp only[iD2]at hc;obtain⟨h1,h2⟩:=hc;have h2:=jK2 h2;rcases Ke h1 with⟨rfl,rfl⟩|⟨rfl,rfl⟩|⟨rfl,rfl⟩
  exact yK (show TM M 163=some (jK 158 5 40 [(.int .i64 0),(.int .i64 0),(.int .i64 0),(.bool false),(.int .i64 0)])by kernel_rfl) (a _ (by decide)) h2;exact yK (show TM M 164=some (jK 162 5 40 [(.int .i64 0),(.int .i64 0),(.int .i64 0),(.int .i64 0),(.bool false)])by kernel_rfl) (a _ (by decide)) h2;exact yK (show TM M 165=some (jK 91 2 24 [(.string ⟨#[]⟩),(.int .i64 0)])by kernel_rfl) (a _ (by decide)) h2
 cases h;cases h
theorem rK1 (M:Mm):Yl (TM M) jE Jg Cw.run:=Og
theorem Kf:jM Tryz.prog 8 [.agg (Lu 12 Ti.g)] (.v (.bool true)):=by
 refine Tf bW2 We (xs:=[.agg Ti.g]) ?_ (Yt (by kernel_rfl)) (by kernel_rfl);refine eB1 (NW:=Cw) (Wg (M:=[]) (fun _ h=>by cases h)) (rK1 []) (rH1 (M:=[]) (fun _ h=>by cases h)) 26 8 _ _ ?_;rw[show Od (Tj false) jE Cw Jg 26 8 _=_ from ok8 0 Ti,show F8 Ti=some true by kernel_rfl];rfl
abbrev M2:Mm:=[(8,[.agg (Lu 12 Ti.g)],.v (.bool true))]
abbrev T2:gO:=⟨fun f=>(tl2[f]?).join,pK M2⟩
theorem bX2:fP Tryz.prog T2:=gM.tab (M:=M2) bV2 ⟨Kf,trivial⟩
theorem Ph:runP T2 (exec T2 300) 6 ix6 []=some (.v (.bool true)):=by kernel_rfl
theorem Hf:jM Tryz.prog 6 [] (.v (.bool true)):=xE (fn:=ix6) bX2 We (by kernel_rfl) rfl rfl Ph
theorem jE1:fP Tryz.prog TBL:=gM.tab (M:=MK) rJ1 ⟨Hf,trivial⟩
theorem dJ1:∀f xs v,jE f=false->Tj true f xs=some v->mO TBL f xs v:=by
 intro f xs v hf h;by_cases a:xs=[]/\f=6;obtain⟨rfl,rfl⟩:=a;cases h;exact Tg (fn:=ix6) (by kernel_rfl) rfl rfl rfl;refine Wg Wd f xs v hf ?_;unfold Tj at h ⊢;split at h;exact h;cases hc:Nat.beq f 6 with
 |false=>rw[hc]at h;cases h
 |true=>exact(a ⟨rfl,iW2 hc⟩).elim
 cases h
end
end Go.P
namespace Go.P
open Go.Sim Go.Proofs
theorem y89 {D:Nat} {cs:aA AV} (h:uN Tryz.prog D 89 cs):∃x:bJ,(fun _=>True) x/\LR (RC false) x.g cs:=by
 obtain⟨D,h⟩:=Yp Tryz.underlying89 h;obtain⟨c0,d0,rfl,_,h0,c1,j,rfl,_,h1,c2,k,rfl,_,h2,c3,l,rfl,_,h3,c4,m,rfl,_,h4,e⟩:=h;subst e;obtain⟨a,b⟩:=Tb (by kernel_rfl) h0;obtain⟨a1,c⟩:=Tb (by kernel_rfl) h1;obtain⟨a2,d⟩:=Tb (by kernel_rfl) h2;obtain⟨a3,f⟩:=Tb (by kernel_rfl) h3;obtain⟨a4,i⟩:=Tb (by kernel_rfl) h4;exact⟨⟨a,a1,a2,a3,a4⟩,trivial,(b.append (c.append (d.append (f.append (i.append .nil)))))⟩
end Go.P
