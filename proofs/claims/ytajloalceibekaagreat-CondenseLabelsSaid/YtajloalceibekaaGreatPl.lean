import Derived.Test.YtajloalceibekaaGreatGaB
import Derived.KernelRfl
/- A text of the proof. -/
set_option linter.all false
set_option maxRecDepth 100000
namespace Go.P
def Ok {α:Type} (x:Option α) (Q:α->Prop):Prop:=∃v,x=some v/\Q v
section
variable {α β:Type} {Q:α->Prop}
theorem Ok.mk {v:α} (h:Q v):Ok (some v) Q:=⟨v,rfl,h⟩
theorem Ob {P:β->Prop} {x:Option β} {k:β->Option α} (h:Ok x P) (hk:∀v,P v->Ok (k v) Q):Ok (x.bind k) Q:=by
 obtain⟨v,rfl,hv⟩:=h
 exact hk v hv
theorem Ok.mono {P:α->Prop} {x:Option α} (h:Ok x P) (a:∀v,P v->Q v):Ok x Q:=by
 obtain⟨v,h1,h2⟩:=h
 exact⟨v,h1,a v h2⟩
theorem Ok.ex {x:Option α} (h:Ok x Q):∃v,x=some v:=by
 obtain⟨v,h1,_⟩:=h
 exact⟨v,h1⟩
end
theorem iF1 {n:Int} (h1: -9223372036854775808<=n) (h2:n<9223372036854775808):w64 n=n:=by
 have e:w64 n=if n%18446744073709551616>=9223372036854775808 then n%18446744073709551616-18446744073709551616 else n%18446744073709551616:=by
  unfold w64 IntKind.wrap
  rw[show((2:Int)^IntKind.bits .i64)=18446744073709551616 from rfl,show((2:Int)^(IntKind.bits .i64-1))=9223372036854775808 from rfl]
  simp[IntKind.signed]
 rw[e]
 split<;>omega
theorem aS1 {A:Type} {l:List A} {i:Int} {Q:A->Prop} (h0:0<=i) (h1:i<(l.length:Int)) (h:∀x,x∈l->l[i.toNat]? =some x->Q x):Ok (lget l i) Q:=by
 unfold lget
 rw[if_pos h0]
 have hi:i.toNat<l.length:=by omega
 exact⟨l[i.toNat],by simp[hi],h _ (List.getElem_mem hi) (by simp[hi])⟩
end Go.P
namespace Go.P
end Go.P
namespace Go.P
end Go.P
namespace Go.P
end Go.P
namespace Go.P
section
variable {α β:Type} {Q:α->Prop}
theorem Ok.of {x:Option α} (h:Ok x Q) {v:α} (hv:x=some v):Q v:=by
 obtain⟨w,h1,h2⟩:=h
 rw[h1]at hv;cases hv;exact h2
end
section
variable {A:Type} {l:List A}
end
theorem nf:(∀a:Int,(a<a)=False)/\(∀[Decidable False],decide False=false)/\((false=true)=False)/\∀(α:Type) [Decidable False] (a b:α),(if False then a else b)=b:=⟨fun a=>by simp,decide_false _,by simp,fun _ _ _ _=>if_false ..⟩
end Go.P
namespace Go.P
theorem Ok.eq {α:Type} {x:Option α} {a:α} (h:Ok x (fun v=>v=a)):x=some a:=by
 obtain⟨v,h1,rfl⟩:=h
 exact h1
section
variable {K V:Type} [DecidableEq K]
end
end Go.P
namespace Go.P
end Go.P
set_option maxHeartbeats 1000000
namespace Go.P
theorem dB1 {l:List Int} (i:Int) (hl:l.length<=30):∃s,F6 l i=some s/\F7 l i=some s:=by
 have g:(l.length:Int)<=30:=by omega
 unfold F6 F7
 by_cases h:i<0\/i>=(l.length:Int)
 .have hc:((decide (i<0))||(decide (i>=(l.length:Int))))=true:=by simpa using h
  simp only[hc,if_true,Option.bind_some]
  exact⟨_,rfl,rfl⟩
 .have hc:((decide (i<0))||(decide (i>=(l.length:Int))))=false:=by simpa using h
  have h0:0<=i:=by omega
  have h1:i<(l.length:Int):=by omega
  obtain⟨v,hv,_⟩:=aS1 (Q:=fun _=>True) h0 h1 (fun _ _ _=>trivial)
  have key:∃b,((if decide (i>0)=true then(lget l (w64 (i-1))).bind fun e=>some (v==e)else some false:Option Bool))=some b:=by
   by_cases hp:i>0
   .obtain ⟨u,j,_⟩:=aS1 (l:=l) (i:=i-1) (Q:=fun _=>True) (by omega) (by omega) (fun _ _ _=>trivial)
    rw[if_pos (by simpa using hp),iF1 (by omega) (by omega),j]
    exact⟨_,rfl⟩
   .rw [if_neg (by simpa using hp)]
    exact⟨_,rfl⟩
  obtain⟨b,hb⟩:=key
  simp only[hc,Bool.false_eq_true,if_false,Option.bind_some,hv,hb]
  cases b with
  |true=>exact⟨_,rfl,rfl⟩
  |false=>
   simp only[Bool.false_eq_true,if_false,Option.bind_some]
   have f:∃x,F16=some x/\x.c0=⟨#[]⟩/\x.c1=⟨#[]⟩/\x.c2=⟨#[97,50]⟩/\x.c3=⟨#[49,46]⟩/\x.c4=⟨#[50,46]⟩:=⟨_,rfl,rfl,rfl,rfl,rfl,rfl⟩
   obtain⟨x,k,m,n,o,p,e⟩:=f
   rw[k]
   simp only[Option.bind_some,m,n,o,p,e]
   by_cases a1:v<1
   .simp only[a1,decide_true,if_true,Option.bind_some]
    have a:(v==2)=false:=by simp;omega
    have c:(v==3)=false:=by simp;omega
    have d:(v==4)=false:=by simp;omega
    simp only[a,c,d,Bool.false_eq_true,if_false]
    exact⟨_,rfl,rfl⟩
   .simp only[a1,decide_false,Bool.false_eq_true,if_false,Option.bind_some]
    by_cases a2:v>4
    .simp only[a2,decide_true,if_true]
     have a:(v==2)=false:=by simp;omega
     have c:(v==3)=false:=by simp;omega
     have d:(v==4)=false:=by simp;omega
     simp only[a,c,d,Bool.false_eq_true,if_false]
     exact⟨_,rfl,rfl⟩
    .simp only[a2,decide_false,Bool.false_eq_true,if_false]
     have:v=1\/v=2\/v=3\/v=4:=by omega
     rcases this with rfl|rfl|rfl|rfl<;>exact⟨_,rfl,rfl⟩
theorem law3 {l:List Int} {i:Int} (h:l.length<9223372036854775808):F3 l i=some true:=by
 unfold F3
 have hs:∃m,kT l 0 (if 30<(l.length:Int)then 30 else(l.length:Int))=some m/\m.length<=30:=by
  unfold kT
  split
  .rw [if_pos (by omega)]
   exact⟨_,rfl,by simp;omega⟩
  .rw [if_pos (by omega)]
   exact⟨_,rfl,by simp;omega⟩
 obtain⟨m,a,hl⟩:=hs
 obtain⟨s,h1,h2⟩:=dB1 i hl
 rw[a]
 simp only[Option.bind_some,if_true,h1,h2,beq_self_eq_true]
end Go.P
