import Derived.Test.YtolknogilcdomaaGreatLaB
/- A text of the proof. -/
set_option linter.all false
namespace Go.P
open Go.Sim (iV CK Ex RV maxRoom)
variable {A R:Type}
inductive PV where
 |v (x:Value)
 |is (esz:Nat) (rows:List (List PV))
 |ip (cells:List PV)
 |im (es:List (PV×PV))
 |ref (k o:Nat)
 |own (k:Nat)
 |el (k i o:Nat)
 |map (k:Nat)
 |fn (f:FuncId) (first cap:List PV)
 |agg (cells:List PV)
 |tup (vs:List PV)
 |undef
 |yld (k:Nat)
 |zs (d e:Nat) (rows:List (List PV))
 |zp (cells:List PV)
 deriving Inhabited
inductive TD where
 |nd (ty e:Nat) (kids:List (Nat×TD))
 deriving Inhabited
def Ht:Nat->TD->Bool
 |0,.nd _ _ ks=>ks.isEmpty
 |f+1,.nd _ _ ks=>ks.all fun q=>Ht f q.2
def Kz:Nat->TD->TD->Bool
 |0,_,_=>false
 |n+1,.nd a b ks,.nd c d ls=>Nat.beq a c&&(Nat.beq b d&&(Nat.beq ks.length ls.length&&(ks.zip ls).all fun p=>Nat.beq p.1.1 p.2.1&&Kz n p.1.2 p.2.2))
def TD.ks:TD->aA (Nat×TD)
 |.nd _ _ ks=>ks
inductive PX where
 |t (i:Nat)
 |c (x:PV)
 deriving Inhabited
inductive kT where
 |nil
 |op (d:Nat) (k:iV) (xs:List PX) (kill:List Nat) (dS:kT)
 |sto (k:iV) (xs:List PX) (kill:List Nat) (dS:kT)
 |ifx (d c:Nat) (w:Bool) (body:kT) (x:PX) (kill:List Nat) (dS:kT)
 |mkfl (d:Nat) (ty:TypeId) (zero:List Value) (xs:List PX) (kill:List Nat) (dS:kT)
 |lax (d:Nat) (es:List (Option Nat)) (dS:kT)
 |own (d:Nat) (ty:TypeId) (e:Nat) (g:Bool) (dS:kT)
 |ownc (d j:Nat) (ty:TypeId) (e:Nat) (g:Bool) (dS:kT)
 |laxc (d j e:Nat) (dS:kT)
 |fz (d:Nat) (j:Option Nat) (dS:kT)
 |opn (d:Nat) (m:Option Nat) (x:PX) (kill js:List Nat) (dS:kT)
 |bst (d:Nat) (t:TD) (len:Nat) (zero:List Value) (parts:List Nat) (xs:List PX) (kill:List Nat) (dS:kT)
 |gc (keep:List Nat) (dS:kT)
 |clr (d es:Nat) (zero:List Value) (x y:PX) (kill:List Nat) (dS:kT)
 |tre (d:Nat) (j:Option Nat) (t:TD) (dS:kT)
 |up (m:Nat) (dS:kT)
 deriving Inhabited
inductive PC where
 |skip
 |reg (ops:kT)
 |regD (dr:Nat) (ops:kT) (before:List Nat)
 |dead (c:Go.Sim.IC)
 |regX (dr:Nat) (ops:kT) (before:List Nat) (ex:List (Nat×Nat×Nat×Nat))
 |seq (a b:PC)
 |cond (c:PX) (a b:PC)
 |condJ (keep:List Nat) (c:PX) (a b:PC)
 |condL (c:PX) (a b:PC)
 |block (id:Nat) (c:PC)
 |loop (keep kx:List Nat) (c:PC)
 |loopU (m:Nat) (keep:List Nat) (c:PC)
 |rangeF (N:Nat) (keep:List Nat) (f:PX) (params:List Nat) (asn body:PC)
 |exit (id:Nat)
 |ret
 deriving Inhabited
abbrev gL:=aA (Nat×PV)
inductive eT where
 |box (cells:List PV)
 |lst (ty:TypeId) (esz:Nat) (g:Bool) (rows:List (List PV))
 |mp (es:List (PV×PV))
 |fl (fs:List PV)
 |loop (N:Nat) (e:gL) (params:List Nat) (asn body:PC) (busy:Bool) (fin:Option Ex)
 |tr (t:TD) (rows:List (List PV)) (hs:List (Nat×Nat×PV))
abbrev bA:=aA (Nat×eT)
def iA (ty:Nat):Bool:=Nat.ble 4294967296 ty
def Ct (ty:Nat):Nat:=bif iA ty then ty-4294967296 else ty
def eX1:∃f:{R:Type}->Bool->aB R->aB R->aB R,∀{R:Type} b (x y:aB R),f b x y=if b then x else y:=⟨fun b x y=>if b then x else y,fun _ _ _=>rfl⟩
noncomputable def Sv (b:Bool) (x y:aB R):aB R:=Classical.choose eX1 b x y
def tL {R} (b:Bool) (x y:aB R):Sv b x y=if b then x else y:=iM3 eX1 b x y
def Pj:∃f:{A R:Type}->aB A->(A->aB R)->aB R,∀{A R:Type} (x:aB A) (k:A->aB R),f x k=x.bind k:=⟨fun x k=>x.bind k,fun _ _=>rfl⟩
noncomputable def cM (x:aB A) (k:A->aB R):aB R:=Classical.choose Pj x k
def cF {A R} (x:aB A) (k:A->aB R):cM x k=x.bind k:=iM3 Pj x k
noncomputable section
def Uf (x:Value) (K:Value->aB R):aB R:=
 match x with
 |.int k n=>K (.int k n)
 |.bool b=>K (.bool b)
 |.string s=>K (.string s)
 |x=>K x
def fPV (x:PV) (K:PV->aB R):aB R:=
 match x with
 |.v x=>Uf x fun x=>K (.v x)
 |.is e rows=>K (.is e rows)
 |.ip cs=>K (.ip cs)
 |.im es=>K (.im es)
 |.ref k o=>K (.ref k o)
 |.own k=>K (.own k)
 |.el k i o=>K (.el k i o)
 |.map k=>K (.map k)
 |.fn f a b=>K (.fn f a b)
 |.agg cs=>K (.agg cs)
 |.tup cs=>K (.tup cs)
 |.undef=>K .undef
 |.yld k=>K (.yld k)
 |.zs d e rows=>K (.zs d e rows)
 |.zp cs=>K (.zp cs)
def vY:aA PV->(aA PV->aB R)->aB R
 |[],K=>K []
 |x::xs,K=>fPV x fun x=>vY xs fun xs=>K (x::xs)
def fV (x:PV) (K:PV->aB R):aB R:=
 match x with
 |.v x=>Uf x fun x=>K (.v x)
 |.agg cs=>vY cs fun cs=>K (.agg cs)
 |.tup cs=>fT cs fun cs=>K (.tup cs)
 |.ip cs=>vY cs fun cs=>K (.ip cs)
 |.is e rows=>K (.is e rows)
 |.im es=>K (.im es)
 |.ref k o=>K (.ref k o)
 |.own k=>K (.own k)
 |.el k i o=>K (.el k i o)
 |.map k=>K (.map k)
 |.fn f a b=>vY a fun a=>vY b fun b=>K (.fn f a b)
 |.undef=>K .undef
 |.yld k=>K (.yld k)
 |.zs d e rows=>K (.zs d e rows)
 |.zp cs=>K (.zp cs)
 where
 fT:aA PV->(aA PV->aB R)->aB R
 |[],K=>K []
 |x::xs,K=>(match x with
   |.agg cs=>vY cs fun cs=>fT xs fun xs=>K (.agg cs::xs)
   |x=>fPV x fun x=>fT xs fun xs=>K (x::xs))
def tM:gL->Nat->(PV->aB R)->aB R
 |[],_,_=>none
 |(j,v)::r,i,K=>bif Nat.beq j i then K v else tM r i K
def xN:Nat->aA Nat->Bool
 |_,[]=>false
 |i,j::js=>bif Nat.beq i j then true else xN i js
def mF:gL->aA Nat->(gL->aB R)->aB R
 |[],_,K=>K []
 |(j,v)::r,is,K=>bif xN j is then mF r is K else mF r is fun r=>K ((j,v)::r)
def tN (e:gL):aA PX->(aA PV->aB R)->aB R
 |[],K=>K []
 |.t i::xs,K=>tM e i fun v=>tN e xs fun vs=>K (v::vs)
 |.c x::xs,K=>tN e xs fun vs=>K (x::vs)
def qW:Nat->aA PV->(aA PV->aB R)->aB R
 |0,_,K=>K []
 |_+1,[],_=>none
 |n+1,a::as,K=>qW n as fun l=>K (a::l)
def kK:Nat->aA PV->(aA PV->aB R)->aB R
 |0,l,K=>K l
 |_+1,[],_=>none
 |n+1,_::as,K=>kK n as K
def vD:aA PV->Nat->aA PV->(aA PV->aB R)->aB R
 |l,0,[],K=>K l
 |[],_,_,_=>none
 |_::as,0,c::cs,K=>vD as 0 cs fun l=>K (c::l)
 |a::as,n+1,cs,K=>vD as n cs fun l=>K (a::l)
def hK:bA->Nat->(eT->aB R)->aB R
 |[],_,_=>none
 |(j,v)::r,i,K=>bif Nat.beq j i then K v else hK r i K
def iF:bA->Nat->eT->(bA->aB R)->aB R
 |[],_,_,_=>none
 |(j,v)::r,i,o,K=>bif Nat.beq j i then K ((j,o)::r)else iF r i o fun r=>K ((j,v)::r)
def nF (x:PV) (K:aA PV->aB R):aB R:=
 match x with
 |.agg cs=>K cs
 |.tup _=>none
 |.undef=>none
 |x=>K [x]
def kEq (a b:IntKind):Bool:=
 match a,b with
 |.i8,.i8|.i16,.i16|.i32,.i32|.i64,.i64|.u8,.u8|.u16,.u16|.u32,.u32|.u64,.u64=>true
 |_,_=>false
def wR1 (op:BinOp) (x y:PV) (K:PV->aB R):aB R:=
 match x,y with
 |.v x,.v y=>
  match x,y with
  |.int k a,.int k' b=>
   match op with
   |.shl=>cM (if b<0 then none else some (k.wrap (a*2^min b.toNat k.bits))) fun r=>K (.v (.int k r))
   |.shr=>cM (if b<0 then none else some (a.fdiv (2^min b.toNat k.bits))) fun r=>K (.v (.int k r))
   |_=>bif kEq k k' then match op with
    |.add=>K (.v (.int k (k.wrap (a+b))))
    |.sub=>K (.v (.int k (k.wrap (a-b))))
    |.mul=>K (.v (.int k (k.wrap (a*b))))
    |.quo=>cM (if b=0 then none else some (k.wrap (a.tdiv b))) fun r=>K (.v (.int k r))
    |.rem=>cM (if b=0 then none else some (a.tmod b)) fun r=>K (.v (.int k r))
    |.and=>K (.v (.int k (k.wrap (BitVec.ofInt k.bits a&&&BitVec.ofInt k.bits b).toNat)))
    |.or=>K (.v (.int k (k.wrap (BitVec.ofInt k.bits a|||BitVec.ofInt k.bits b).toNat)))
    |.xor=>K (.v (.int k (k.wrap (BitVec.ofInt k.bits a^^^BitVec.ofInt k.bits b).toNat)))
    |.andNot=>K (.v (.int k (k.wrap (BitVec.ofInt k.bits a&&& ~~~ BitVec.ofInt k.bits b).toNat)))
    |.eql=>K (.v (.bool (a==b)))
    |.neq=>K (.v (.bool (a !=b)))
    |.lss=>K (.v (.bool (decide (a<b))))
    |.leq=>K (.v (.bool (decide (a<=b))))
    |.gtr=>K (.v (.bool (decide (a>b))))
    |.geq=>K (.v (.bool (decide (a>=b))))
    |_=>none
   else none
  |.string a,.string b=>
   match op with
   |.add=>cM (if a.size+b.size<=2^62 then some (a++b)else none) fun r=>K (.v (.string r))
   |.eql=>K (.v (.bool (a.toList==b.toList)))
   |.neq=>K (.v (.bool !(a.toList==b.toList)))
   |.lss=>K (.v (.bool (Op.bytesLess a.toList b.toList)))
   |.leq=>K (.v (.bool (Op.bytesLess a.toList b.toList||a.toList==b.toList)))
   |.gtr=>K (.v (.bool !(Op.bytesLess a.toList b.toList||a.toList==b.toList)))
   |.geq=>K (.v (.bool !(Op.bytesLess a.toList b.toList)))
   |_=>none
  |_,_=>none
 |_,_=>none
def mI1:aA CK->aA PV->aA PV->(Bool->aB R)->aB R
 |[],[],[],K=>K true
 |k::ks,a::as,b::bs,K=>mI1 ks as bs fun r=>match k,a,b with
  |.i,.v (.int j x),.v (.int j' y)=>bif kEq j j' then K ((x==y)&&r)else none
  |.b,.v (.bool x),.v (.bool y)=>K ((x==y)&&r)
  |.s,.v (.string x),.v (.string y)=>K ((x==y)&&r)
  |_,_,_=>none
 |_,_,_,_=>none
def qL (rows:aA (aA PV)) (i:Int):aB (aA PV):=if 0<=i then rows[i.toNat]? else none
def qX (n:Nat) (i:Int):aB Nat:=if 0<=i/\i<n then some i.toNat else none
def qY (rows:aA (aA PV)) (l h:Int):aB (aA (aA PV)):=
 if 0<=l/\l<=h/\h<=rows.length then some ((rows.drop l.toNat).take (h.toNat-l.toNat))else none
def tO (s:ByteArray) (i:Int):aB Int:=if 0<=i then(s.data.toList[i.toNat]?).map fun b=>(b.toNat:Int)else none
def pD (rows:aA (aA PV)) (i o:Nat) (cs:aA PV):aB (aA (aA PV)):=
 match rows[i]? with
 |some row=>if o+cs.length<=row.length then some (rows.set i (Sim.setL row o cs))else none
 |none=>none
def lR (rows:aA (aA PV)) (i o:Nat):aB PV:=(rows[i]?).bind fun row=>row[o]?
def mV (rows:aA (aA PV)) (i o n:Nat):aB (aA PV):=(rows[i]?).bind fun row=>if o+n<=row.length then some ((row.drop o).take n)else none
def xO (cs:aA PV) (i:Int) (len esz:Nat):aB PV:=if 0<=i/\i<len then cs[i.toNat*esz]? else none
def tP (cs:aA PV) (i:Int) (len esz:Nat):aB (aA PV):=if 0<=i/\i<len/\(i.toNat+1)*esz<=cs.length then some ((cs.drop (i.toNat*esz)).take esz)else none
def byteRows (s:ByteArray):aA (aA PV):=s.data.toList.map fun b=>[.v (.int .u8 b.toNat)]
def appRows (g:Bool) (rows new:aA (aA PV)):aB (aA (aA PV)):=
 if rows.length+new.length<=maxRoom/\(g=true->new.length<=1)then some (rows++new)else none
def uR (rows:aA (aA PV)) (h:Int):aB (aA (aA PV)):=if 0<=h/\h<=rows.length then some (rows.take h.toNat)else none
def pE (l c:Int) (zero:aA PV):aB (aA (aA PV)):=if 0<=l/\l<=c/\c<=maxRoom then some (List.replicate l.toNat zero)else none
def xP:CK->PV->PV->aB Bool
 |.i,.v (.int k a),.v (.int k' b)=>if k=k' then some (a==b)else none
 |.b,.v (.bool a),.v (.bool b)=>some (a==b)
 |.s,.v (.string a),.v (.string b)=>some (a==b)
 |_,_,_=>none
def pF:aA CK->aA PV->aA PV->aB Bool
 |[],[],[]=>some true
 |k::ks,a::as,b::bs=>match xP k a b with
  |some true=>pF ks as bs
  |some false=>some false
  |none=>none
 |_,_,_=>none
def zY (agg:Bool) (ks:aA CK) (a b:PV):aB Bool:=
 if agg then match a,b with
  |.agg as,.agg bs=>if as.length=ks.length/\bs.length=ks.length then pF ks as bs else none
  |_,_=>none
 else pF ks [a] [b]
def xQ (agg:Bool) (ks:aA CK) (k:PV):aA (PV×PV)->Nat->aB (aB (Nat×PV))
 |[],_=>some none
 |(k',x)::r,i=>match zY agg ks k k' with
  |some true=>some (some (i,x))
  |some false=>xQ agg ks k r (i+1)
  |none=>none
def zZ (agg:Bool) (ks:aA CK):PV->Bool
 |.agg as=>agg&&as.length==ks.length
 |.v _=> !agg
 |_=>false
def vZ (agg:Bool) (ks:aA CK) (zero k:PV) (es:aA (PV×PV)):aB PV:=
 if zZ agg ks k then(xQ agg ks k es 0).map fun r=>match r with|some (_,x)=>x|none=>zero else none
def xR (agg:Bool) (ks:aA CK) (zero k:PV) (es:aA (PV×PV)):aB (PV×Bool):=
 if zZ agg ks k then(xQ agg ks k es 0).map fun r=>match r with|some (_,x)=>(x,true)|none=>(zero,false)else none
def Ez (agg:Bool) (ks:aA CK) (k x:PV) (es:aA (PV×PV)):aB (aA (PV×PV)):=
 if zZ agg ks k then(xQ agg ks k es 0).map fun r=>match r with|some (i,_)=>es.set i (k,x)|none=>es++[(k,x)]else none
def fS:Nat->PV->Bool
 |0,_=>false
 |d+1,x=>match x with
  |.v _|.is _ _|.ip _|.im _=>true
  |.fn _ a b=>a.all (fS d)&&b.all (fS d)
  |.agg cs=>cs.all (fS d)
  |.tup cs=>cs.all (fS d)
  |_=>false
def iO:PV->Bool
 |.v _|.is _ _|.ip _=>true
 |_=>false
def Ug:PV->Bool
 |.agg cs=>cs.all iO
 |x=>iO x
def Aa:Nat->PV->Bool
 |0,_=>false
 |d+1,x=>match x with
  |.v _=>true
  |.agg cs=>cs.all (Aa d)
  |.tup cs=>cs.all (Aa d)
  |_=>false
def vE (f:PV->(PV->aB R)->aB R):aA PV->(aA PV->aB R)->aB R
 |[],K=>K []
 |x::xs,K=>f x fun x=>vE f xs fun xs=>K (x::xs)
def La (h:bA):Nat->PV->(PV->aB R)->aB R
 |0,_,_=>none
 |d+1,x,K=>match x with
  |.own k=>hK h k fun ob=>match ob with
   |.lst _ e _ rows=>K (.is e rows)
   |.tr t rows hs=>match hs with
    |[]=>match t with|.nd ty e ks=>bif Ht 4 (.nd ty e ks)then K (.is e rows)else none
    |_=>none
   |_=>none
  |.zs dp e rows=>bif Nat.ble dp 5 then K (.is e rows)else none
  |.map k=>hK h k fun ob=>match ob with
   |.mp es=>K (.im es)
   |_=>none
  |.ref k o=>hK h k fun ob=>match ob with
   |.box cs=>kK o cs fun cs=>vE (La h d) cs fun cs=>K (.ip cs)
   |_=>none
  |.fn f a b=>vE (La h d) a fun a=>vE (La h d) b fun b=>K (.fn f a b)
  |.agg cs=>vE (La h d) cs fun cs=>K (.agg cs)
  |.v x=>K (.v x)
  |.is e rows=>K (.is e rows)
  |.ip cs=>K (.ip cs)
  |.im es=>K (.im es)
  |_=>none
def fY (k:Nat):Nat->PV->(PV->aB R)->aB R
 |0,_,K=>K .undef
 |d+1,x,K=>match x with
  |.own j=>bif Nat.beq j k then K .undef else K (.own j)
  |.el j i o=>bif Nat.beq j k then K .undef else K (.el j i o)
  |.ref j o=>bif Nat.beq j k then K .undef else K (.ref j o)
  |.map j=>bif Nat.beq j k then K .undef else K (.map j)
  |.yld j=>bif Nat.beq j k then K .undef else K (.yld j)
  |.fn f a b=>kills d a fun a=>kills d b fun b=>K (.fn f a b)
  |.agg cs=>kills d cs fun cs=>K (.agg cs)
  |.tup cs=>kills d cs fun cs=>K (.tup cs)
  |x=>K x
 where
 kills (d:Nat):aA PV->(aA PV->aB R)->aB R
 |[],K=>K []
 |x::xs,K=>fY k d x fun x=>kills d xs fun xs=>K (x::xs)
def oD (k:Nat):gL->(gL->aB R)->aB R
 |[],K=>K []
 |(j,v)::r,K=>fY k 3 v fun v=>oD k r fun r=>K ((j,v)::r)
def Fa (k:Nat):aA (Nat×Nat×PV)->(aA (Nat×Nat×PV)->aB R)->aB R
 |[],K=>K []
 |(j,i,x)::r,K=>fY k 3 x fun x=>Fa k r fun r=>K ((j,i,x)::r)
def lQ (k:Nat):bA->(bA->aB R)->aB R
 |[],K=>K []
 |(j,o)::r,K=>match o with
  |.box cs=>fY.kills k 2 cs fun cs=>lQ k r fun r=>K ((j,.box cs)::r)
  |.lst ty e g rows=>lQ k r fun r=>K ((j,.lst ty e g rows)::r)
  |.mp es=>lQ k r fun r=>K ((j,.mp es)::r)
  |.fl fs=>fY.kills k 2 fs fun fs=>lQ k r fun r=>K ((j,.fl fs)::r)
  |.loop N e ps a b busy fin=>oD k e fun e=>lQ k r fun r=>K ((j,.loop N e ps a b busy fin)::r)
  |.tr t rows hs=>Fa k hs fun hs=>lQ k r fun r=>K ((j,.tr t rows hs)::r)
def eY1 (h:bA) (e:Nat) (x:PV) (K:aA (aA PV)->aB R):aB R:=
 match x with
 |.is e' rows=>bif Nat.beq e' e then K rows else none
 |.own k=>hK h k fun ob=>match ob with
  |.lst _ e' _ rows=>bif Nat.beq e' e then K rows else none
  |_=>none
 |.v (.slice none 0 0)=>K []
 |_=>none
def Cu (lo hi:Bool) (len:Nat) (bs:aA PV) (K:Int->Int->aB R):aB R:=
 match lo,hi,bs with
 |false,false,[]=>K 0 len
 |true,false,[.v (.int _ l)]=>K l len
 |false,true,[.v (.int _ h)]=>K 0 h
 |true,true,[.v (.int _ l),.v (.int _ h)]=>K l h
 |_,_,_=>none
def Pk:aA PV->aA (Nat×Nat)->aA PV->(aA PV->aB R)->aB R
 |cells,[],[],K=>K cells
 |cells,(off,n)::ps,x::xs,K=>nF x fun cs=>bif Nat.beq cs.length n then vD cells off cs fun cells=>Pk cells ps xs K else none
 |_,_,_,_=>none
def xS (e:Nat):aA PV->(aA (aA PV)->aB R)->aB R
 |[],K=>K []
 |x::xs,K=>nF x fun cs=>bif Nat.beq cs.length e&&cs.all iO then xS e xs fun r=>K (cs::r)else none
def fA1:PV->Bool
 |.agg cs=>cs.all iO
 |x=>iO x
def Lb:Nat->aA Nat->Bool
 |_,[]=>true
 |i,j::js=>bif Nat.beq i j then Lb (i+1) js else false
def mnK (mx:Bool) (k:IntKind):Int->aA PV->(Int->aB R)->aB R
 |a,[],K=>K a
 |a,.v (.int k' b)::r,K=>bif kEq k k' then mnK mx k (bif mx then(if b>a then b else a)else(if b<a then b else a)) r K else none
 |_,_,_=>none
def mJ1 (i:Int) (K:Nat->aB R):aB R:=
 match i with
 |.ofNat i=>K i
 |_=>none
def Pm (i:Int):Nat->(Nat->aB R)->aB R
 |0,_=>none
 |m+1,K=>Sv (i==(m:Int)) (K m) (Pm i m K)
def gZ:aA (Nat×TD)->Nat->aB TD
 |[],_=>none
 |(j,t)::r,o=>bif Nat.beq j o then some t else gZ r o
def xT (ks:aA (Nat×TD)):Nat->aA PV->(aA PV->aB R)->aB R
 |_,[],K=>K []
 |o,x::xs,K=>match gZ ks o with
  |some _=>xT ks (o+1) xs fun xs=>K (.undef::xs)
  |none=>xT ks (o+1) xs fun xs=>K (x::xs)
def Fe:aA (Nat×Nat×PV)->Nat->aB (Nat×PV)
 |[],_=>none
 |(j,i,x)::r,o=>bif Nat.beq j o then some (i,x)else Fe r o
def aF1:aA (Nat×Nat×PV)->Nat->aA (Nat×Nat×PV)
 |[],_=>[]
 |(j,i,x)::r,o=>bif Nat.beq j o then r else(j,i,x)::aF1 r o
def Pn (i j:Nat):aB Unit:=if i=j then some ()else none
def Wp (hs:aA (Nat×Nat×PV)) (o i:Nat) (K:aA (Nat×Nat×PV)->aB R):aB R:=
 match Fe hs o with
 |none=>K hs
 |some (i',_)=>cM (Pn i i') fun _=>K (aF1 hs o)
def xU (ks:aA (Nat×TD)) (i:Nat):Nat->aA PV->aA (Nat×Nat×PV)->(aA PV->aA (Nat×Nat×PV)->aB R)->aB R
 |_,[],hs,K=>K [] hs
 |o,y::ys,hs,K=>match gZ ks o with
  |none=>bif iO y then xU ks i (o+1) ys hs fun l hs=>K (y::l) hs else none
  |some (.nd _ e _)=>match y with
   |.own kc=>Wp hs o i fun hs=>match Fe hs o with
    |none=>xU ks i (o+1) ys ((o,i,.own kc)::hs) fun l hs=>K (.is e []::l) hs
    |some _=>none
   |.v (.slice none 0 0)=>Wp hs o i fun hs=>match Fe hs o with
    |none=>xU ks i (o+1) ys hs fun l hs=>K (.is e []::l) hs
    |some _=>none
   |_=>none
def Cg:TD->aA (aA PV)->eT
 |.nd ty e [],rows=>.lst ty e true rows
 |t,rows=>.tr t rows []
def Po (ks:aA (Nat×TD)) (i o:Nat) (cs0:aA PV):aA Nat->aA PV->aA (Nat×Nat×PV)->bA->Nat->(aA PV->aA (Nat×Nat×PV)->bA->Nat->aB R)->aB R
 |[],cs,hs,h,n,K=>K cs hs h n
 |j::js,cs,hs,h,n,K=>match gZ ks j with
  |some t=>bif Nat.ble o j then match Fe hs j with
   |some (i',x)=>cM (Pn i i') fun _=>vD cs (j-o) [x] fun cs=>Po ks i o cs0 js cs hs h n K
   |none=>kK (j-o) cs0 fun l=>match l with
    |.is _ rows::_=>vD cs (j-o) [.own n] fun cs=>Po ks i o cs0 js cs ((j,i,.own n)::hs) ((n,Cg t rows)::h) (n+1) K
    |_=>none
   else none
  |none=>none
def wS1 (t:TD) (ob:eT) (K:Nat->aA (aA PV)->aB R):aB R:=
 match ob with
 |.lst ty e _ rows=>bif iA ty then none else bif Kz 2 (.nd ty e []) t then K e rows else none
 |.tr t' rows []=>bif Kz 8 t' t then(match t with|.nd _ e _=>K e rows)else none
 |_=>none
def wA:aA (Nat×Nat×PV)->Nat->aB (Nat×Nat)
 |[],_=>none
 |(j,i,.own k)::r,kc=>bif Nat.beq k kc then some (j,i)else wA r kc
 |_::r,kc=>wA r kc
def vL:aA (Nat×Nat×PV)->Nat->aA (Nat×Nat×PV)
 |[],_=>[]
 |(j,i,.own k)::r,kc=>bif Nat.beq k kc then r else(j,i,.own k)::vL r kc
 |x::r,kc=>x::vL r kc
def mK1 (a:Nat):bA->aB Nat
 |[]=>none
 |(kp,o)::r=>match o with
  |.tr _ _ hs=>match wA hs a with
   |some _=>some kp
   |none=>mK1 a r
  |_=>mK1 a r
def Pp (k:Nat):Nat->PV->Bool
 |0,_=>true
 |d+1,x=>match x with
  |.ref j _|.own j|.el j _ _|.map j|.yld j=>Nat.beq j k
  |.fn _ a b=>a.any (Pp k d)||b.any (Pp k d)
  |.agg cs=>cs.any (Pp k d)
  |.tup cs=>cs.any (Pp k d)
  |_=>false
def wT1 (k:Nat):eT->Bool
 |.box cs=>cs.any (Pp k 5)
 |.fl cs=>cs.any (Pp k 5)
 |.loop _ e _ _ _ _ _=>e.any fun q=>Pp k 5 q.2
 |_=>false
def uC1 (k:Nat) (e:gL) (h:bA):Bool:=(e.any fun q=>Pp k 5 q.2)||h.any fun q=>wT1 k q.2
def fZ (k:iV) (xs:aA PV) (h:bA) (n:Nat) (K:PV->bA->Nat->aB R):aB R:=
 match k,xs with
 |.mov,[x]=>K x h n
 |.nilc,[x]=>match x with
  |.ref .. |.ip .. |.el .. |.fn .. |.yld .. =>K x h n
  |_=>none
 |.box _ size,[x]=>nF x fun cs=>bif Nat.beq cs.length size then(bif Nat.beq size 0 then none else K (.ref n 0) ((n,.box cs)::h) (n+1))else none
 |.alloc _ zero,[]=>vY (zero.map .v) fun cs=>K (.ref n 0) ((n,.box cs)::h) (n+1)
 |.build zero parts,xs=>vY (zero.map .v) fun cs=>Pk cs parts xs fun cs=>K (.agg cs) h n
 |.buildSl ty e len zero parts,xs=>bif Lb 0 parts&&(Nat.beq zero.length e&& !(iA ty))then(bif Nat.beq parts.length len then bif xs.all fA1 then xS e xs fun rows=>bif Nat.beq rows.length len then K (.own n) ((n,.lst ty e false rows)::h) (n+1)else none else none else none)else none
 |.loadS,[p]=>match p with
  |.ref k o=>hK h k fun ob=>match ob with
   |.box cs=>kK o cs fun cs=>match cs with
    |c::_=>K c h n
    |[]=>none
   |_=>none
  |.ip cs=>match cs with
   |c::_=>K c h n
   |[]=>none
  |.el k i o=>hK h k fun ob=>match ob with
   |.lst _ _ _ rows=>cM (lR rows i o) fun c=>K c h n
   |.fl fs=>bif Nat.beq o 0 then(kK i fs fun fs=>match fs with
    |f::_=>K f h n
    |[]=>none)else none
   |.tr t rows _=>match gZ t.ks o with
    |some _=>cM (lR rows i o) fun _=>K .undef h n
    |none=>cM (lR rows i o) fun c=>K c h n
   |_=>none
  |_=>none
 |.loadA m,[p]=>match p with
  |.ref k o=>hK h k fun ob=>match ob with
   |.box cs=>kK o cs fun cs=>qW m cs fun cs=>K (.agg cs) h n
   |_=>none
  |.ip cs=>qW m cs fun cs=>K (.agg cs) h n
  |.zp cs=>qW m cs fun cs=>K (.agg cs) h n
  |.el k i o=>hK h k fun ob=>match ob with
   |.lst _ _ _ rows=>cM (mV rows i o m) fun cs=>K (.agg cs) h n
   |.tr t rows _=>cM (mV rows i o m) fun cs=>xT t.ks o cs fun cs=>K (.agg cs) h n
   |_=>none
  |_=>none
 |.store m,[p,x]=>match p with
  |.ref k o=>hK h k fun ob=>match ob with
   |.box cs=>nF x fun ys=>bif Nat.beq ys.length m then vD cs o ys fun cs=>iF h k (.box cs) fun h=>K .undef h n else none
   |_=>none
  |.el k i o=>hK h k fun ob=>match ob with
   |.lst ty e g rows=>nF x fun ys=>bif Nat.beq ys.length m&&ys.all iO then cM (pD rows i o ys) fun rows=>iF h k (.lst ty e g rows) fun h=>K .undef h n else none
   |.tr t rows hs=>nF x fun ys=>bif Nat.beq ys.length m then xU t.ks i o ys hs fun ys hs=>cM (pD rows i o ys) fun rows=>iF h k (.tr t rows hs) fun h=>K .undef h n else none
   |_=>none
  |_=>none
 |.fad off,[p]=>match p with
  |.ref k o=>K (.ref k (o+off)) h n
  |.ip cs=>kK off cs fun cs=>K (.ip cs) h n
  |.el k i o=>K (.el k i (o+off)) h n
  |_=>none
 |.iad e,[x,i]=>match i with
  |.v (.int _ i)=>match x with
   |.is e' rows=>bif Nat.beq e' e then cM (qL rows i) fun row=>K (.ip row) h n else none
   |.zs dp e' rows=>bif Nat.beq e' e&&Nat.ble dp 1 then cM (qL rows i) fun row=>K (.zp row) h n else none
   |.own k=>hK h k fun ob=>match ob with
    |.lst _ e' _ rows=>bif Nat.beq e' e then cM (qX rows.length i) fun i=>K (.el k i 0) h n else none
    |.fl fs=>bif Nat.beq e 1 then mJ1 i (fun i=>bif Nat.blt i fs.length then K (.el k i 0) h n else none)else none
    |.tr t rows _=>match t with|.nd _ e' _=>bif Nat.beq e' e then cM (qX rows.length i) fun i=>K (.el k i 0) h n else none
    |_=>none
   |_=>none
  |_=>none
 |.iadA len esz,[p,i]=>match i with
  |.v (.int _ i)=>match p with
   |.ref k o=>Pm i len fun j=>K (.ref k (o+j*esz)) h n
   |_=>none
  |_=>none
 |.idxStr,[x,i]=>match x,i with
  |.v (.string s),.v (.int _ i)=>cM (tO s i) fun b=>K (.v (.int .u8 b)) h n
  |_,_=>none
 |.idxA len e agg,[x,i]=>match x,i with
  |.agg cs,.v (.int _ i)=>bif agg then cM (tP cs i len e) fun cs=>K (.agg cs) h n else cM (xO cs i len e) fun c=>K c h n
  |_,_=>none
 |.bin op,[x,y]=>wR1 op x y fun v=>K v h n
 |.eqB neg,[x,y]=>match x,y with
  |.v (.bool a),.v (.bool b)=>K (.v (.bool ((a==b)!=neg))) h n
  |_,_=>none
 |.eqA neg ks,[x,y]=>match x,y with
  |.agg as,.agg bs=>mI1 ks as bs fun r=>K (.v (.bool (r !=neg))) h n
  |_,_=>none
 |.un op,[x]=>match op,x with
  |.not,.v (.bool b)=>K (.v (.bool !b)) h n
  |.neg,.v (.int k m)=>K (.v (.int k (k.wrap (0-m)))) h n
  |.xor,.v (.int k m)=>K (.v (.int k (k.wrap (BitVec.ofInt k.bits (if k.signed then -1 else k.max)^^^BitVec.ofInt k.bits m).toNat))) h n
  |_,_=>none
 |.convI k,[x]=>match x with
  |.v (.int _ m)=>K (.v (.int k (k.wrap m))) h n
  |_=>none
 |.s2b _,[x]=>match x with
  |.v (.string s)=>K (.is 1 (byteRows s)) h n
  |_=>none
 |.mkfn f m,xs=>match f with
  |.func f=>qW m xs fun a=>kK m xs fun b=>K (.fn f a b) h n
  |_=>none
 |.mkmap,[]=>K (.map n) ((n,.mp [])::h) (n+1)
 |.mksl ty e _ zero,[l,c]=>match l,c with
  |.v (.int _ l),.v (.int _ c)=>bif iA ty then none else vY (zero.map .v) fun z=>cM (pE l c z) fun rows=>K (.own n) ((n,.lst ty e true rows)::h) (n+1)
  |_,_=>none
 |.slc e lo hi mx,x::bs=>bif mx then none else match x with
  |.is e' rows=>bif Nat.beq e' e then Cu lo hi rows.length bs fun l r=>cM (qY rows l r) fun rows=>K (.is e rows) h n else none
  |_=>none
 |.lookup agg ks zero ok,[m,k]=>
  match zero with
  |.v z=>match m with
   |.im es=>bif fS 2 k then(bif ok then cM (xR agg ks (.v z) k es) fun r=>K (.tup [r.1,.v (.bool r.2)]) h n else cM (vZ agg ks (.v z) k es) fun r=>K r h n)else none
   |.map j=>hK h j fun ob=>match ob with
    |.mp es=>bif fS 2 k then(bif ok then cM (xR agg ks (.v z) k es) fun r=>K (.tup [r.1,.v (.bool r.2)]) h n else cM (vZ agg ks (.v z) k es) fun r=>K r h n)else none
    |_=>none
   |_=>none
  |_=>none
 |.mapup agg ks,[m,k,x]=>match m with
  |.map j=>hK h j fun ob=>match ob with
   |.mp es=>bif Ug k&&Ug x then cM (Ez agg ks k x es) fun es=>iF h j (.mp es) fun h=>K .undef h n else none
   |_=>none
  |_=>none
 |.len kd,[x]=>match x with
  |.is _ rows=>bif Nat.beq kd 0 then cM (some rows.length) fun m=>K (.v (.int .i64 m)) h n else none
  |.own k=>bif Nat.beq kd 0 then hK h k fun ob=>match ob with
   |.lst _ _ _ rows=>cM (some rows.length) fun m=>K (.v (.int .i64 m)) h n
   |.fl fs=>K (.v (.int .i64 fs.length)) h n
   |.tr _ rows _=>cM (some rows.length) fun m=>K (.v (.int .i64 m)) h n
   |_=>none else none
  |.zs _ _ rows=>bif Nat.beq kd 0 then cM (some rows.length) fun m=>K (.v (.int .i64 m)) h n else none
  |.v (.slice none 0 0)=>bif Nat.beq kd 0 then K (.v (.int .i64 0)) h n else none
  |.v (.string s)=>bif Nat.beq kd 1 then K (.v (.int .i64 s.size)) h n else none
  |_=>none
 |.mx,x::xs=>match x with
  |.v (.int k a)=>mnK true k a xs fun r=>K (.v (.int k r)) h n
  |_=>none
 |.ext i,[x]=>match x with
  |.tup vs=>kK i vs fun vs=>match vs with
   |v::_=>K v h n
   |[]=>none
  |_=>none
 |_,_=>none
structure NX where
 is:FuncId->Bool
 nw:FuncId->Bool
 xw:FuncId->Bool
 run:{R:Type}->FuncId->List PV->bA->Nat->(PV->bA->Nat->Option R)->Option R
 yld:{R:Type}->Nat->List PV->bA->Nat->(PV->bA->Nat->Option R)->Option R
abbrev Hk:=FuncId->aA PV->aB PV
def Cv (h:bA):aA PV->(aA PV->aB R)->aB R
 |[],K=>K []
 |x::xs,K=>La h 5 x fun x=>Cv h xs fun xs=>K (x::xs)
def Br (C:Hk) (f:FuncId) (xs:aA PV) (h:bA) (K:PV->aB R):aB R:=
 bif xs.all (fS 4)then cM (C f xs) fun v=>fV v K
 else Cv h xs fun xs=>cM (C f xs) fun v=>fV v fun v=>bif Aa 4 v then K v else none
def fB1 (e:gL) (h:bA) (d ty es:Nat) (kill:aA Nat) (k:Nat) (t:TD) (rows:aA (aA PV)) (hs:aA (Nat×Nat×PV)) (a:Nat) (b:eT) (K:gL->bA->aB R):aB R:=
 match t,hs,b with
 |.nd ty' es' ks,[],.tr t2 rows2 []=>bif (Nat.beq es' es&&Nat.beq ty' ty)&&(Kz 8 t2 (.nd ty' es' ks)&& !(Nat.beq k a))then cM (appRows true rows rows2) fun rows=>
   mF e (d::kill) fun e=>oD k e fun e=>oD a e fun e=>lQ k h fun h=>lQ a h fun h=>iF h a (.lst 0 0 true []) fun h=>iF h k (.tr (.nd ty' es' ks) rows []) fun h=>K ((d,.own k)::e) h
  else none
 |_,_,_=>none
def wU1 (e:gL) (h:bA) (d ty es:Nat) (kill:aA Nat) (s x:PV) (K:gL->bA->aB R):aB R:=
 match s with
 |.own k=>hK h k fun ob=>match ob with
  |.lst ty' es' g rows=>eY1 h es x fun new=>bif Nat.beq es' es&&(Nat.beq ty' ty&& !(iA ty'))then cM (appRows g rows new) fun rows=>
    mF e (d::kill) fun e=>oD k e fun e=>lQ k h fun h=>iF h k (.lst ty' es' g rows) fun h=>K ((d,.own k)::e) h
   else none
  |.tr t rows hs=>match x with
   |.own k2=>hK h k2 fun a=>fB1 e h d ty es kill k t rows hs k2 a K
   |_=>none
  |_=>none
 |_=>none
def sN (f:PV->aA Nat->(aA Nat->aB R)->aB R):aA PV->aA Nat->(aA Nat->aB R)->aB R
 |[],a,K=>K a
 |x::xs,a,K=>f x a fun a=>sN f xs a K
def Pq (f:PV->aA Nat->(aA Nat->aB R)->aB R):gL->aA Nat->(aA Nat->aB R)->aB R
 |[],a,K=>K a
 |(_,x)::xs,a,K=>f x a fun a=>Pq f xs a K
def mW:Nat->PV->aA Nat->(aA Nat->aB R)->aB R
 |0,_,_,_=>none
 |d+1,x,a,K=>match x with
  |.ref k _=>K (k::a)
  |.own k=>K (k::a)
  |.el k _ _=>K (k::a)
  |.map k=>K (k::a)
  |.yld k=>K (k::a)
  |.fn _ p q=>sN (mW d) p a fun a=>sN (mW d) q a K
  |.agg cs=>sN (mW d) cs a K
  |.tup cs=>sN (mW d) cs a K
  |_=>K a
def nG (h:bA):Nat->aA Nat->aA Nat->(aA Nat->aB R)->aB R
 |0,_,_,_=>none
 |_+1,[],a,K=>K a
 |n+1,k::b,a,K=>bif xN k a then nG h n b a K else hK h k fun ob=>match ob with
  |.box cs=>sN (mW 4) cs b fun b=>nG h n b (k::a) K
  |.fl cs=>sN (mW 4) cs b fun b=>nG h n b (k::a) K
  |.loop _ e _ _ _ _ _=>Pq (mW 4) e b fun b=>nG h n b (k::a) K
  |.tr _ _ hs=>sN (mW 4) (hs.map fun q=>q.2.2) b fun b=>nG h n b (k::a) K
  |_=>nG h n b (k::a) K
def Pr:bA->aA Nat->(bA->bA->aB R)->aB R
 |[],_,K=>K [] []
 |(k,o)::r,ns,K=>Pr r ns fun a b=>bif xN k ns then K ((k,o)::a) b else K a ((k,o)::b)
def iB:bA->Nat->Bool
 |[],_=>false
 |(j,_)::r,k=>bif Nat.beq j k then true else iB r k
def oE (p:Nat->Bool):Nat->PV->Bool
 |0,_=>false
 |d+1,x=>match x with
  |.ref k _|.own k|.el k _ _|.map k|.yld k=>p k
  |.fn _ a b=>a.all (oE p d)&&b.all (oE p d)
  |.agg cs=>cs.all (oE p d)
  |.tup cs=>cs.all (oE p d)
  |_=>true
def Lc (p:Nat->Bool):eT->Bool
 |.box cs=>cs.all (oE p 4)
 |.fl cs=>cs.all (oE p 4)
 |.loop _ e _ _ _ _ _=>e.all fun q=>oE p 4 q.2
 |.tr _ _ hs=>hs.all fun q=>oE p 4 q.2.2
 |_=>true
def mX (p:Nat->Bool):bA->Bool
 |[]=>true
 |(_,o)::r=>Lc p o&&mX p r
def qM:bA->gL->bA->(gL->bA->aB R)->aB R
 |[],e,h,K=>K e h
 |(k,o)::r,e,h,K=>match o with
  |.lst ty .. =>bif iA ty then qM r e h K else oD k e fun e=>lQ k h fun h=>qM r e h K
  |.tr .. =>oD k e fun e=>lQ k h fun h=>qM r e h K
  |_=>qM r e h K
def sP:bA->Bool
 |[]=>true
 |(_,o)::r=>match o with
  |.tr .. =>false
  |_=>sP r
def xV:bA->bA->(bA->aB R)->aB R
 |[],b,K=>K b
 |(k,o)::r,b,K=>xV r b fun r=>K ((k,o)::r)
def tQ:bA->aA Nat
 |[]=>[]
 |(k,_)::r=>k::tQ r
def aG1 (hs:bA) (n:Nat):bA->Bool
 |[]=>true
 |(k,_)::r=>bif iB hs k||Nat.ble n k then aG1 hs n r else false
def aH1 (a:bA):aA Nat->Bool
 |[]=>true
 |k::r=>bif iB a k then aH1 a r else false
def aI1 (hs:bA):bA->Bool
 |[]=>true
 |(k,_)::r=>bif iB hs k then aI1 hs r else false
def bnd:bA->Nat->Nat
 |[],m=>m
 |(k,_)::r,m=>bif Nat.blt k m then bnd r m else bnd r (k+1)
def Ld (hs:bA) (nw:Bool) (n:Nat) (v:PV) (h':bA) (n':Nat):aB (PV×bA×Nat):=
 sN (mW 5) [v] (tQ hs) fun a=>nG h' 60 a [] fun b=>Pr h' b fun h2 _=>
  bif aH1 h2 (tQ hs)&&(bif nw then aG1 hs n h2 else aI1 hs h2)&&(oE (iB h2) 5 v&&mX (iB h2) h2)then some (v,h2,bif nw then n' else 0)else none
def inK (run:bA->Nat->(PV->bA->Nat->aB (PV×bA×Nat))->aB (PV×bA×Nat)) (nw:Bool) (xs:aA PV) (e:gL) (h:bA) (n:Nat) (kill:aA Nat) (K:PV->gL->bA->Nat->aB R):aB R:=
 sN (mW 5) xs [] fun a=>nG h 60 a [] fun c=>Pr h c fun hs b=>
  bif xs.all (oE (iB hs) 5)&&(mX (iB hs) hs&&(sP hs||sP b))then
   cM (run hs (bif nw then n else bnd hs 0) (Ld hs nw (bif nw then n else bnd hs 0))) fun r=>
    fV r.1 fun v=>xV r.2.1 [] fun h2=>mF e kill fun e=>qM h2 e b fun e b=>xV h2 b fun h=>K v e h (bif nw then r.2.2 else n)
  else none
def wB (o:Bool) (p:Nat->Bool):Nat->PV->Bool
 |0,_=>false
 |d+1,x=>match x with
  |.v _|.is _ _|.ip _|.im _=>true
  |.zs dp _ _=>Nat.ble dp 1
  |.ref k _=>p k
  |.own k=>o&&p k
  |.fn _ a b=>a.all (wB o p d)&&b.all (wB o p d)
  |.agg cs=>cs.all (wB o p d)
  |.tup cs=>cs.all (wB o p d)
  |_=>false
def sO (k:Nat):Nat->PV->Bool
 |0,_=>false
 |d+1,x=>match x with
  |.ref j _=>Nat.beq j k
  |.fn _ a b=>a.any (sO k d)||b.any (sO k d)
  |.agg cs=>cs.any (sO k d)
  |.tup cs=>cs.any (sO k d)
  |_=>false
def Ps (p:Nat->Bool):bA->Bool
 |[]=>true
 |(_,o)::r=>(match o with|.box cs=>cs.all (wB false p 5)|_=>false)&&Ps p r
def fC1 (p:Nat->Bool):bA->Bool
 |[]=>true
 |(_,o)::r=>(match o with|.lst ty _ _ _=> !(iA ty)|.tr _ _ hs=>hs.isEmpty|.box cs=>cs.all (wB false p 5)|_=>false)&&fC1 p r
def Pt (p:Nat->Bool):bA->(bA->bA->aB R)->aB R
 |[],K=>K [] []
 |(k,o)::r,K=>Pt p r fun a b=>bif p k then K ((k,o)::a) b else K a ((k,o)::b)
def wW1:aA PV->(aA PV->aB R)->aB R
 |[],K=>K []
 |_::r,K=>wW1 r fun r=>K (.undef::r)
def mL1:bA->(bA->aB R)->aB R
 |[],K=>K []
 |(k,o)::r,K=>mL1 r fun r=>match o with
  |.box cs=>wW1 cs fun cs=>K ((k,.box cs)::r)
  |_=>none
def inN (b:Bool) (run:bA->Nat->(PV->bA->Nat->aB (PV×bA×Nat))->aB (PV×bA×Nat)) (nw:Bool) (xs:aA PV) (e:gL) (h:bA) (n:Nat) (kill:aA Nat) (K:PV->gL->bA->Nat->aB R):aB R:=
 Pt (fun k=>xs.any (sO k 5)) h fun hs a=>
  bif nw&&(xs.all (wB false (iB hs) 5)&&(Ps (fun _=>false) hs&&(b||hs.isEmpty)))then
   cM (run hs n (Ld hs true n)) fun r=>Pt (iB hs) r.2.1 fun old new=>
    bif Ps (iB r.2.1) old&&(fC1 (iB r.2.1) new&&wB true (iB r.2.1) 5 r.1)then
     fV r.1 fun v=>mL1 old fun old=>xV old a fun a=>xV new a fun h=>mF e kill fun e=>K v e h r.2.2
    else none
  else none
def Uh:bA->(bA->aB R)->aB R
 |[],K=>K []
 |(k,o)::r,K=>match o with
  |.lst ty e g rows=>bif iA ty then none else Uh r fun r=>K ((k,.lst (ty+4294967296) e g rows)::r)
  |o=>Uh r fun r=>K ((k,o)::r)
def Bs:bA->bA->(bA->aB R)->aB R
 |_,[],K=>K []
 |h,(k,o)::r,K=>hK h k fun o0=>match o0 with
  |.lst .. =>match o with
   |.lst ty e g rows=>bif iA ty&& !(iA (ty-4294967296))then Bs h r fun r=>K ((k,.lst (ty-4294967296) e g rows)::r)else none
   |_=>none
  |_=>match o with
   |.lst .. =>none
   |o=>Bs h r fun r=>K ((k,o)::r)
def mM1 (fx:Bool) (run:bA->Nat->(PV->bA->Nat->aB (PV×bA×Nat))->aB (PV×bA×Nat)) (nw:Bool) (xs:aA PV) (e:gL) (h:bA) (n:Nat) (kill:aA Nat) (K:PV->gL->bA->Nat->aB R):aB R:=
 bif fx then Uh h fun h1=>inK run nw xs e h1 n kill fun v e h2 n=>Bs h h2 fun a=>K v e a n
 else inK run nw xs e h n kill K
def Ui (e:gL) (h:bA) (d es:Nat) (kill:aA Nat) (k:Nat) (hi:Int) (K:gL->bA->aB R):aB R:=
 hK h k fun ob=>match ob with
 |.lst ty es' _ rows=>bif Nat.beq es' es&& !(iA ty)then cM (uR rows hi) fun rows=>
   mF e (d::kill) fun e=>oD k e fun e=>lQ k h fun h=>iF h k (.lst ty es' true rows) fun h=>K ((d,.own k)::e) h
  else none
 |_=>none
def opK (C:Hk) (X:NX) (k:iV) (as:aA PV) (h:bA) (n:Nat) (K:PV->bA->Nat->aB R):aB R:=
 match k,as with
 |.callF f,as=>bif X.is f then none else Br C f as h fun v=>K v h n
 |.callV,.fn f first cap::as=>bif X.is f then none else Br C f (first++as++cap) h fun v=>K v h n
 |k,as=>fZ k as h n K
def aJ1:aA (aB Nat)->aA PV->(aA PV->aB R)->aB R
 |[],[],K=>K []
 |o::os,x::xs,K=>aJ1 os xs fun xs=>match o with
  |none=>K (x::xs)
  |some e=>match x with
   |.v (.slice none 0 0)=>K (.is e []::xs)
   |_=>none
 |_,_,_=>none
def qZ (ty e:Nat) (g:Bool):eT:=.lst ty e g []
def Wr:Bool->eT->aB PV
 |false,.lst ty e _ rows=>bif iA ty then none else some (.zs 1 e rows)
 |_,_=>none
def Pu:bA->Nat->(bA->aB R)->aB R
 |[],_,K=>K []
 |(j,o)::r,k,K=>bif Nat.beq j k then Pu r k K else Pu r k fun r=>K ((j,o)::r)
def fzK (e:gL) (h:bA) (d:Nat) (m:Bool) (k:Nat) (j:aB Nat) (K:gL->bA->aB R):aB R:=
 hK h k fun ob=>match Wr m ob with
 |some x=>oD k e fun e=>lQ k h fun h=>iF h k (.lst 0 0 true []) fun h=>match j with
  |none=>mF e [d] fun e=>K ((d,x)::e) h
  |some j=>tM e d fun v=>match v with
   |.agg cs=>vD cs j [x] fun cs=>mF e [d] fun e=>K ((d,.agg cs)::e) h
   |_=>none
 |none=>none
def Ff:PV->aB (Bool×Nat)
 |.own k=>some (false,k)
 |.map k=>some (true,k)
 |_=>none
def Pv:iV->Bool
 |.store _|.mapup .. =>true
 |_=>false
def mN1:PV->Bool
 |.fn .. =>true
 |_=>false
def eI:kT->aA Nat->aA Nat
 |.nil,a=>a
 |.op d _ _ _ r,a=>d::eI r a
 |.sto _ _ _ r,a=>eI r a
 |.ifx d _ _ b _ _ r,a=>d::eI b (eI r a)
 |.mkfl d _ _ _ _ r,a=>d::eI r a
 |.lax _ _ r,a=>eI r a
 |.own _ _ _ _ r,a=>eI r a
 |.ownc _ _ _ _ _ r,a=>eI r a
 |.laxc _ _ _ r,a=>eI r a
 |.fz _ _ r,a=>eI r a
 |.opn d _ _ _ _ r,a=>d::eI r a
 |.bst d _ _ _ _ _ _ r,a=>d::eI r a
 |.gc _ r,a=>eI r a
 |.clr d _ _ _ _ _ r,a=>d::eI r a
 |.tre _ _ _ r,a=>eI r a
 |.up _ r,a=>eI r a
def fD1 (a:Nat):bA->Bool
 |[]=>false
 |(k,o)::r=>bif Nat.beq k a then(match o with|.tr _ _ (_::_)=>true|_=>false)else fD1 a r
def wX1 (e:gL) (h:bA) (a:Nat) (K:gL->bA->aB R):aB R:=
 bif uC1 a e h||fD1 a h then K e h else match mK1 a h with
 |none=>K e h
 |some kp=>hK h kp fun op=>match op with
  |.tr t rows hs=>match wA hs a with
   |some (j,i)=>match gZ t.ks j with
    |some t'=>hK h a fun ob=>wS1 t' ob fun es rows'=>cM (pD rows i j [.is es rows']) fun b=>
      oD a e fun e=>lQ a h fun h=>iF h a (.lst 0 0 true []) fun h=>Fa a (vL hs a) fun hs=>iF h kp (.tr t b hs) fun h=>K e h
    |none=>none
   |none=>none
  |_=>none
def gcK:aA Nat->gL->bA->(gL->bA->aB R)->aB R
 |[],e,h,K=>K e h
 |k::ks,e,h,K=>wX1 e h k fun e h=>gcK ks e h K
def xW (rows:aA (aA PV)) (lo:Int) (z:aA PV):aB (aA (aA PV)):=if 0<=lo/\lo<=rows.length then some (rows.take lo.toNat++List.replicate (rows.length-lo.toNat) z)else none
def fE1:PV->Bool
 |.own _=>true
 |.el .. =>true
 |_=>false
def Ws:bA->aA Nat->(bA->aB R)->aB R
 |[],_,K=>K []
 |(k,o)::r,ns,K=>Ws r ns fun r=>match o with
  |.box cs=>bif xN k ns|| !(cs.any fE1)then K ((k,.box cs)::r)else K ((k,.box (cs.map fun _=>.undef))::r)
  |o=>K ((k,o)::r)
def Ja:gL->aA Nat->(gL->aB R)->aB R
 |[],_,K=>K []
 |(j,v)::r,ks,K=>bif xN j ks then Ja r ks fun r=>K ((j,v)::r)else Ja r ks K
def Jb (ks:aA (Nat×TD)) (es:Nat):Nat->aA PV->aA (Nat×Nat×PV)->(aA (aA PV)->aA (Nat×Nat×PV)->aB R)->aB R
 |_,[],hs,K=>K [] hs
 |i,x::xs,hs,K=>nF x fun cs=>bif Nat.beq cs.length es then xU ks i 0 cs [] fun cs a=>Jb ks es (i+1) xs (a++hs) fun r hs=>K (cs::r) hs else none
def fF1 (e:gL) (h:bA) (d:Nat) (j:aB Nat) (K:PV->aB R):aB R:=tM e d fun v=>match j with
 |none=>K v
 |some j=>match v with
  |.agg cs=>kK j cs fun cs=>match cs with
   |c::_=>K c
   |[]=>none
  |.ref k o=>hK h k fun ob=>match ob with
   |.box cs=>kK (o+j) cs fun cs=>match cs with
    |c::_=>K c
    |[]=>none
   |_=>none
  |_=>none
def fU (C:Hk) (X:NX) (dr:Nat):kT->gL->bA->Nat->(gL->bA->Nat->aB R)->aB R
 |.nil,e,h,n,K=>K e h n
 |.op d k xs kill dS,e,h,n,K=>tN e xs fun as=>
  match k,as with
  |.append ty es _ _ false,[s,x]=>wU1 e h d ty es kill s x fun e h=>fU C X dr dS e h n K
  |.slc es false true false,[.own k,.v (.int _ hi)]=>Ui e h d es kill k hi fun e h=>fU C X dr dS e h n K
  |.callF f,as=>bif X.is f then bif Nat.ble 6 dr then bif X.xw f then inN (Nat.beq (f+6) dr) (X.run f as) (X.nw f) as e h n (d::kill) fun v e h n=>fU C X dr dS ((d,v)::e) h n K else none
    else bif X.xw f&& !(Nat.beq dr 0)then none else mM1 (xN 4294967296 kill) (X.run f as) (X.nw f) as e h n (d::kill) fun v e h n=>fU C X dr dS ((d,v)::e) h n K
   else Br C f as h fun v=>mF e (d::kill) fun e=>fU C X dr dS ((d,v)::e) h n K
  |.callV,.yld k::as=>bif Nat.beq dr 3||Nat.ble 5 dr then none else inK (X.yld k as) false (.yld k::as) e h n (d::kill) fun v e h n=>fU C X dr dS ((d,v)::e) h n K
  |.callV,.fn f first cap::as=>bif X.is f then bif Nat.beq dr 3||(Nat.ble 5 dr||(X.xw f&& !(Nat.beq dr 0)))then none else mM1 (xN 4294967296 kill) (X.run f (first++as++cap)) (X.nw f) (first++as++cap) e h n (d::kill) fun v e h n=>fU C X dr dS ((d,v)::e) h n K
   else Br C f (first++as++cap) h fun v=>mF e (d::kill) fun e=>fU C X dr dS ((d,v)::e) h n K
  |k,as=>opK C X k as h n fun v h n=>mF e (d::kill) fun e=>fU C X dr dS ((d,v)::e) h n K
 |.sto k xs kill dS,e,h,n,K=>tN e xs fun as=>fZ k as h n fun _ h n=>mF e kill fun e=>fU C X dr dS e h n K
 |.ifx d c w body x kill dS,e,h,n,K=>tM e c fun l=>match l with
  |.v (.bool b)=>
   cM (bif w then Sv b (opsB C X body e h n x) (some false)else Sv b (some true) (opsB C X body e h n x))
    fun y=>mF e (d::eI body kill) fun e=>fU C X dr dS ((d,.v (.bool y))::e) h n K
  |_=>none
 |.mkfl d ty zero xs kill dS,e,h,n,K=>tN e xs fun as=>bif Nat.beq zero.length 1&&as.all mN1 then mF e (d::kill) fun e=>fU C X dr dS ((d,.own n)::e) ((n,.fl as)::h) (n+1) K else none
 |.lax d es dS,e,h,n,K=>tM e d fun v=>match v,es with
  |.v (.slice none 0 0),[some s]=>mF e [d] fun e=>fU C X dr dS ((d,.is s [])::e) h n K
  |.agg cs,es=>aJ1 es cs fun cs=>mF e [d] fun e=>fU C X dr dS ((d,.agg cs)::e) h n K
  |_,_=>none
 |.own d ty s g dS,e,h,n,K=>tM e d fun v=>match v with
  |.v (.slice none 0 0)=>mF e [d] fun e=>fU C X dr dS ((d,.own n)::e) ((n,qZ ty s g)::h) (n+1) K
  |_=>none
 |.fz d j dS,e,h,n,K=>tM e d fun v=>match j with
  |none=>match Ff v with
   |some (m,k)=>fzK e h d m k none fun e h=>fU C X dr dS e h n K
   |none=>none
  |some j=>match v with
   |.agg cs=>kK j cs fun cs'=>match cs' with
    |c::_=>match Ff c with
     |some (m,k)=>fzK e h d m k (some j) fun e h=>fU C X dr dS e h n K
     |none=>none
    |[]=>none
   |_=>none
 |.laxc d j s dS,e,h,n,K=>tM e d fun v=>match v with
  |.ref k _=>hK h k fun ob=>match ob with
   |.box cs=>kK j cs fun cs'=>match cs' with
    |.v (.slice none 0 0)::_=>vD cs j [.is s []] fun cs=>iF h k (.box cs) fun h=>fU C X dr dS e h n K
    |_=>none
   |_=>none
  |_=>none
 |.ownc d j ty s g dS,e,h,n,K=>tM e d fun v=>match v with
  |.ref k _=>hK h k fun ob=>match ob with
   |.box cs=>kK j cs fun cs'=>match cs' with
    |.v (.slice none 0 0)::_=>vD cs j [.own n] fun cs=>iF h k (.box cs) fun h=>fU C X dr dS e ((n,qZ ty s g)::h) (n+1) K
    |_=>none
   |_=>none
  |_=>none
 |.opn d m x kill js dS,e,h,n,K=>tN e [x] fun vs=>match vs with
  |[.el k i o]=>hK h k fun ob=>match ob with
   |.tr t rows hs=>match m with
    |none=>cM (lR rows i o) fun c=>Po t.ks i o [c] js [.undef] hs h n fun cs hs h n=>match cs with
     |[v]=>iF h k (.tr t rows hs) fun h=>mF e (d::kill) fun e=>fU C X dr dS ((d,v)::e) h n K
     |_=>none
    |some m=>cM (mV rows i o m) fun cs0=>xT t.ks o cs0 fun cs=>Po t.ks i o cs0 js cs hs h n fun cs hs h n=>iF h k (.tr t rows hs) fun h=>mF e (d::kill) fun e=>fU C X dr dS ((d,.agg cs)::e) h n K
   |_=>none
  |_=>none
 |.bst d t len zero parts xs kill dS,e,h,n,K=>tN e xs fun as=>match t with
  |.nd ty es ks=>bif Lb 0 parts&&(Nat.beq zero.length es&&(!(iA ty)&&Nat.beq parts.length len))then Jb ks es 0 as [] fun rows hs=>bif Nat.beq rows.length len then
    mF e (d::kill) fun e=>fU C X dr dS ((d,.own n)::e) ((n,.tr t rows hs)::h) (n+1) K else none else none
 |.clr d es zero x y kill dS,e,h,n,K=>tN e [x,y] fun vs=>match vs with
  |[.own k,.v (.int _ lo)]=>hK h k fun ob=>match ob with
   |.lst ty es' g rows=>bif Nat.beq es' es&&Nat.beq zero.length es then vY (zero.map .v) fun z=>cM (xW rows lo z) fun rows=>iF h k (.lst ty es' g rows) fun h=>mF e (d::kill) fun e=>fU C X dr dS e h n K else none
   |_=>none
  |_=>none
 |.gc keep dS,e,h,n,K=>Ja e keep fun e=>Pq (mW 5) e [] fun a=>nG h 60 a [] fun p=>Ws h p fun h=>gcK (tQ h) e h fun e h=>fU C X dr dS e h n K
 |.up m dS,e,h,n,K=>bif Nat.ble n m then fU C X dr dS e h m K else none
 |.tre d j t dS,e,h,n,K=>fF1 e h d j fun v=>match v with
  |.own k=>hK h k fun ob=>match ob with
   |.lst ty es _ []=>match t with
    |.nd ty' es' _=>bif Nat.beq ty ty'&&(Nat.beq es es'&& !(iA ty))then iF h k (.tr t [] []) fun h=>fU C X dr dS e h n K else none
   |_=>none
  |_=>none
 where
 opsB (C:Hk) (X:NX):kT->gL->bA->Nat->PX->aB Bool
 |.nil,e,_,_,x=>tN e [x] fun vs=>match vs with
  |[.v (.bool b)]=>some b
  |_=>none
 |.op d k xs kill dS,e,h,n,x=>tN e xs fun as=>
  bif Pv k then none else opK C X k as h n fun v h n=>mF e (d::kill) fun e=>opsB C X dS ((d,v)::e) h n x
 |.ifx d c w body x' kill dS,e,h,n,x=>tM e c fun l=>match l with
  |.v (.bool b)=>
   cM (bif w then Sv b (opsB C X body e h n x') (some false)else Sv b (some true) (opsB C X body e h n x'))
    fun y=>mF e (d::eI body kill) fun e=>opsB C X dS ((d,.v (.bool y))::e) h n x
  |_=>none
 |_,_,_,_,_=>none
def rA (n:Nat):Nat->PV->Bool
 |0,_=>false
 |d+1,x=>match x with
  |.ref k _|.own k|.el k _ _|.map k|.yld k=>Nat.blt k n
  |.fn _ a b=>a.all (rA n d)&&b.all (rA n d)
  |.agg cs=>cs.all (rA n d)
  |.tup cs=>cs.all (rA n d)
  |_=>true
def Wt:gL->Nat->(PV->aB R)->aB R->aB R
 |[],_,_,D=>D
 |(j,v)::r,i,K,D=>bif Nat.beq j i then K v else Wt r i K D
def Pw:gL->aA Nat->Nat->(gL->aB R)->aB R
 |_,[],_,K=>K []
 |e,i::is,n,K=>Wt e i (fun v=>bif rA n 4 v then Pw e is n fun r=>K ((i,v)::r)else none) (Pw e is n K)
def xX (n:Nat):eT->Bool
 |.box cs=>cs.all (rA n 4)
 |.fl cs=>cs.all (rA n 4)
 |.loop _ e _ _ _ _ _=>e.all fun q=>rA n 4 q.2
 |.tr _ _ hs=>hs.all fun q=>rA n 4 q.2.2
 |_=>true
def Wu:bA->bA->Nat->(bA->aB R)->aB R
 |[],_,_,K=>K []
 |(k,_)::r,h,n,K=>hK h k fun o=>bif xX n o then Wu r h n fun r=>K ((k,o)::r)else none
def aS {S E:Type} (body:S->aB (S⊕E)):Nat->S->aB E
 |0,_=>none
 |n+1,s=>(body s).bind fun r=>match r with
  |.inl s=>aS body n s
  |.inr e=>some e
def bK:Nat:=18446744073709551616
structure Sw where
 e:gL
 h:bA
def Fg (body:gL->bA->(Ex->gL->bA->aB R)->aB R) (a:gL->bA->(Sw->aB R)->aB R):Nat->Sw->(Ex->Sw->aB R)->aB R
 |0,_,_=>none
 |m+1,s,K=>body s.e s.h fun x e h=>a e h fun s=>match x with
  |.normal=>Fg body a m s K
  |.exit i=>K (.exit i) s
  |.ret=>K .ret s
def Wv:gL->aA Nat->(gL->aB R)->aB R
 |_,[],K=>K []
 |e,i::is,K=>tM e i fun v=>Wv e is fun r=>K ((i,v)::r)
def pG (keep:aA Nat) (h0:bA) (n0:Nat) (e:gL) (h:bA) (K:Sw->aB R):aB R:=
 Pw e keep n0 fun e=>Wu h0 h n0 fun h=>K ⟨e,h⟩
def lk (x:Ex) (a b:aA Nat):aA Nat:=match x with
 |.normal=>a
 |_=>b
abbrev gN (X:NX) (f:FuncId) (xs:aA PV) (hs:bA) (m:Nat) (nw:Bool):aB (PV×bA×Nat):=X.run f xs hs m (Ld hs nw m)
abbrev Fh (X:NX) (k:Nat) (xs:aA PV) (hs:bA) (m:Nat):aB (PV×bA×Nat):=X.yld k xs hs m (Ld hs false m)
def fQ:gL->Nat->aB PV
 |[],_=>none
 |(j,v)::r,i=>if j=i then some v else fQ r i
def aK:bA->Nat->aB eT
 |[],_=>none
 |(j,v)::r,i=>if j=i then some v else aK r i
def xY:PV->aB Nat
 |.ref k _|.own k|.el k _ _|.map k=>some k
 |_=>none
def fG1:PV->Bool
 |.ip _|.v _|.is _ _|.im _=>true
 |_=>false
def Uj (h:bA) (x y:PV):Bool:=fG1 x||fG1 y||match xY x,xY y with
 |some k,some k'=> !Nat.beq k k'&&(aK h k).isSome&&(aK h k').isSome
 |_,_=>false
def Le (h:bA) (k:Nat):Bool:=match aK h k with
 |some (.box _)=>true
 |_=>false
def exB (h0:bA) (e:gL) (h:bA) (ex:aA (Nat×Nat×Nat×Nat)):Bool:=ex.all fun p=>bif Nat.beq p.2.2.1 999999 then(match fQ e p.2.2.2 with
 |some (.ref k _)=>Le h0 k&&Le h k
 |_=>false)else match fQ e p.2.2.1,fQ e p.2.2.2 with
 |some x,some y=>Uj h x y
 |_,_=>false
def jB (C:Hk) (X:NX) {R:Type}:PC->gL->bA->Nat->(Ex->gL->bA->Nat->aB R)->aB R
 |.skip,e,h,n,K=>K .normal e h n
 |.reg ops,e,h,n,K=>fU C X 0 ops e h n (K .normal)
 |.regD dr ops _,e,h,n,K=>fU C X dr ops e h n (K .normal)
 |.dead _,_,_,_,_=>none
 |.regX dr ops _ ex,e,h,n,K=>fU C X dr ops e h n fun e h' n=>bif exB h e h' ex then K .normal e h' n else none
 |.seq a b,e,h,n,K=>jB C X a e h n (fun x e h n=>match x with|.normal=>jB C X b e h n K|.exit i=>K (.exit i) e h n|.ret=>K .ret e h n)
 |.cond c a b,e,h,n,K=>tN e [c] fun vs=>match vs with
  |[.v (.bool t)]=>Sv t (jB C X a e h n K) (jB C X b e h n K)
  |_=>none
 |.condJ keep c a b,e,h,n,K=>tN e [c] fun vs=>match vs with
  |[.v (.bool t)]=>cM (Sv t (jB C X a e h n fun x e' h' _=>pG keep h n e' h' fun s=>some (x,s)) (jB C X b e h n fun x e' h' _=>pG keep h n e' h' fun s=>some (x,s)))
    fun r=>K r.1 r.2.e r.2.h n
  |_=>none
 |.block id c,e,h,n,K=>jB C X c e h n (fun x e h n=>match x with|.exit i=>bif Nat.beq i id then K .normal e h n else K (.exit i) e h n|.normal=>K .normal e h n|.ret=>K .ret e h n)
 |.loop keep kx c,e,h,n,K=>pG keep h n e h fun s0=>
   cM (aS (fun s:Sw=>jB C X c s.e s.h n fun x e' h' _=>pG (lk x keep kx) h n e' h' fun s'=>some (match x with|.normal=>.inl s'|x=>.inr (x,s'))) bK s0)
    fun r=>K r.1 r.2.e r.2.h n
 |.condL c a b,e,h,n,K=>tN e [c] fun vs=>match vs with
  |[.v (.bool t)]=>match t with
   |true=>jB C X a e h n K
   |false=>jB C X b e h n K
  |_=>none
 |.loopU m keep c,e,h,n,K=>pG keep h n e h fun s0=>
   Fg (fun e h K=>jB C X c e h n fun x e h _=>K x e h) (fun e' h' K=>pG keep h n e' h' K) m s0 fun x s=>K x s.e s.h n
 |.rangeF N keep f ps a b,e,h,n,K=>tN e [f] fun vs=>match vs with
  |[.fn g first cap]=>bif X.is g then Wv e keep fun d=>
    inK (X.run g (first++[.yld n]++cap)) false (first++[.yld n]++cap) e ((n,.loop N d ps a b false none)::h) (n+1) [] fun _ e h m=>
     hK h n fun ob=>match ob with
     |.loop _ _ _ _ _ false fin=>Pu h n fun h=>match fin with
      |none=>K .normal e h m
      |some (.exit i)=>K (.exit i) e h m
      |some .ret=>K .ret e h m
      |some .normal=>none
     |_=>none
   else none
  |_=>none
 |.exit id,e,h,n,K=>K (.exit id) e h n
 |.ret,e,h,n,K=>K .ret e h n
end
end Go.P
namespace Go.P
open Go.Sim (AV AO Hp mQ upd St IC IX Ex iV CK)
def cD2:PV->AV
 |.v x=>.v x
 |_=>.tup []
def eV:PV->AV
 |.v x=>.v x
 |.is _ []=>.v (.slice none 0 0)
 |.fn f [] []=>.fn (.func f) [] []
 |.agg cs=>.agg (cs.map cD2)
 |_=>.tup []
def isV:PV->Bool
 |.v _=>true
 |_=>false
def okC:PV->Bool
 |.v _=>true
 |.is _ []=>true
 |.fn _ [] []=>true
 |.agg cs=>cs.all isV
 |_=>false
def eX:PX->IX
 |.t i=>.t i
 |.c x=>.c (eV x)
def rV (g:aB (Nat×Bool)):kT->aA Sim.Op1
 |.nil=>[]
 |.op d k xs _ r=>⟨some d,k,xs.map eX,g⟩::rV g r
 |.sto k xs _ r=>⟨none,k,xs.map eX,g⟩::rV g r
 |.ifx d c w b x _ r=>rV (some (c,w)) b++⟨some d,.pick,if w then[.t c,eX x,.c (.v (.bool false))]else[.t c,.c (.v (.bool true)),eX x],g⟩::rV g r
 |.mkfl d ty zero xs _ r=>⟨some d,.buildSl ty 1 xs.length zero (List.range xs.length),xs.map eX,g⟩::rV g r
 |.lax _ _ r=>rV g r
 |.own _ _ _ _ r=>rV g r
 |.ownc _ _ _ _ _ r=>rV g r
 |.laxc _ _ _ r=>rV g r
 |.fz _ _ r=>rV g r
 |.opn d m x _ _ r=>⟨some d,(match m with|none=>.loadS|some m=>.loadA m),[eX x],g⟩::rV g r
 |.bst d t len zero parts xs _ r=>⟨some d,(match t with|.nd ty e _=>.buildSl ty e len zero parts),xs.map eX,g⟩::rV g r
 |.gc _ r=>rV g r
 |.clr d es zero x y _ r=>⟨some d,.slc es true false false,[eX x,eX y],g⟩::⟨none,.clear es zero,[.t d],g⟩::rV g r
 |.tre _ _ _ r=>rV g r
 |.up _ r=>rV g r
def tR:kT->Bool
 |.nil=>true
 |.lax _ _ r=>tR r
 |.own _ _ _ _ r=>tR r
 |.ownc _ _ _ _ _ r=>tR r
 |.laxc _ _ _ r=>tR r
 |.fz _ _ r=>tR r
 |.gc _ r=>tR r
 |.tre _ _ _ r=>tR r
 |.up _ r=>tR r
 |_=>false
def uD1:kT->Bool
 |.nil=>true
 |_=>false
def mY:PC->IC
 |.skip=>.skip
 |.reg ops=>.reg (rV none ops)
 |.regD _ ops before=>.regD (rV none ops) before
 |.dead c=>c
 |.regX _ ops before _=>.regD (rV none ops) before
 |.seq a b=>match a with
  |.reg ops=>if tR ops&& !uD1 ops then mY b else .seq (.reg (rV none ops)) (mY b)
  |a=>match b with
   |.reg ops=>if tR ops&& !uD1 ops then mY a else .seq (mY a) (.reg (rV none ops))
   |b=>.seq (mY a) (mY b)
 |.cond c a b=>.cond (eX c) (mY a) (mY b)
 |.condJ _ c a b=>.cond (eX c) (mY a) (mY b)
 |.condL c a b=>.cond (eX c) (mY a) (mY b)
 |.block id c=>.block id (mY c)
 |.loop _ _ c=>.loop (mY c)
 |.loopU _ _ c=>.loop (mY c)
 |.rangeF _ _ f ps a b=>.rangeF (eX f) ps (mY a) (mY b)
 |.exit id=>.exit id
 |.ret=>.ret
end Go.P
namespace Go.P
open Go.Sim (AV AO Hp mQ upd St IC IX Ex iV CK Wf)
variable {i j:Nat}
inductive RC:Bool->PV->AV->Prop
 |v {p:Bool} (x:Value):RC p (.v x) (.v x)
 |is {p:Bool} {e:Nat} {rows:List (List PV)} {rows':List (List AV)} (hl:rows.length=rows'.length)
   (hr:∀(i:Nat) (r:List PV) (r':List AV),rows[i]? =some r->rows'[i]? =some r'->r.length=r'.length)
   (hc:∀(i:Nat) (r:List PV) (r':List AV) (j:Nat) (x:PV) (y:AV),rows[i]? =some r->rows'[i]? =some r'->r[j]? =some x->r'[j]? =some y->RC true x y):RC p (.is e rows) (.is e rows')
 |isn {p:Bool} {e:Nat}:RC p (.is e []) (.v (.slice none 0 0))
 |ip {p:Bool} {cs:List PV} {cs':List AV} (hl:cs.length=cs'.length) (hc:∀(j:Nat) (x:PV) (y:AV),cs[j]? =some x->cs'[j]? =some y->RC false x y):RC p (.ip cs) (.ip cs')
 |im {es:List (PV×PV)} {es':List (AV×AV)} (hl:es.length=es'.length)
   (hk:∀(j:Nat) (x:PV×PV) (y:AV×AV),es[j]? =some x->es'[j]? =some y->RC false x.1 y.1)
   (hv:∀(j:Nat) (x:PV×PV) (y:AV×AV),es[j]? =some x->es'[j]? =some y->RC false x.2 y.2):RC false (.im es) (.im es')
 |fn {f:FuncId} {a b:List PV} {a' b':List AV} (h1:a.length=a'.length) (h2:b.length=b'.length)
   (v1:∀(j:Nat) (x:PV) (y:AV),a[j]? =some x->a'[j]? =some y->RC false x y) (v2:∀(j:Nat) (x:PV) (y:AV),b[j]? =some x->b'[j]? =some y->RC false x y):RC false (.fn f a b) (.fn (.func f) a' b')
 |agg {cs:List PV} {cs':List AV} (hl:cs.length=cs'.length) (hc:∀(j:Nat) (x:PV) (y:AV),cs[j]? =some x->cs'[j]? =some y->RC false x y):RC false (.agg cs) (.agg cs')
 |tup {cs:List PV} {cs':List AV} (hl:cs.length=cs'.length) (hc:∀(j:Nat) (x:PV) (y:AV),cs[j]? =some x->cs'[j]? =some y->RC false x y):RC false (.tup cs) (.tup cs')
def RC.weak {p} {x} {y} (h:RC p x y):RC false x y:=by
 cases h with
 |v x=>exact .v x
 |is hl hr hc=>exact .is hl hr hc
 |isn=>exact .isn
 |ip hl hc=>exact .ip hl hc
 |im a b c=>exact .im a b c
 |fn a b c d=>exact .fn a b c d
 |agg a b=>exact .agg a b
 |tup a b=>exact .tup a b
def RC.plain {x} {y} (h:RC false x y) (hp:iO x=true):RC true x y:=by
 cases h with
 |v x=>exact .v x
 |is hl hr hc=>exact .is hl hr hc
 |isn=>exact .isn
 |ip hl hc=>exact .ip hl hc
 |_=>simp[iO]at hp
def LR (R:PV->AV->Prop) (xs:aA PV) (ys:aA AV):Prop:=xs.length=ys.length/\∀(j:Nat) (x:PV) (y:AV),xs[j]? =some x->ys[j]? =some y->R x y
section
variable {R:PV->AV->Prop}
def LR.nil:LR R [] []:=⟨rfl,fun j x y h=>by simp at h⟩
def LR.cons {x} {y} {xs} {ys} (h:R x y) (d:LR R xs ys):LR R (x::xs) (y::ys):=
 ⟨by simp[d.1],fun j a b c hb=>by
  cases j with
  |zero=>simp at c hb;subst c hb;exact h
  |succ j=>simp at c hb;exact d.2 j a b c hb⟩
def LR.head {x} {y} {xs} {ys} (h:LR R (x::xs) (y::ys)):R x y:=h.2 0 x y rfl rfl
def LR.tail {x} {y} {xs} {ys} (h:LR R (x::xs) (y::ys)):LR R xs ys:=
 ⟨by simpa using h.1,fun j a b c hb=>h.2 (j+1) a b (by simpa using c) (by simpa using hb)⟩
def LR.inv_nil {ys} (h:LR R [] ys):ys=[]:=by
 have:=h.1;cases ys with
 |nil=>rfl
 |cons a as=>simp at this
def LR.inv_cons {x} {xs} {ys} (h:LR R (x::xs) ys):∃y b,ys=y::b/\R x y/\LR R xs b:=by
 cases ys with
 |nil=>have:=h.1;simp at this
 |cons a as=>exact⟨a,as,rfl,h.head,h.tail⟩
def LR.append {xs xs'} {ys ys'} (h:LR R xs ys) (h':LR R xs' ys'):LR R (xs++xs') (ys++ys'):=by
 induction xs generalizing ys with
 |nil=>rw[h.inv_nil];exact h'
 |cons a as ih=>
  obtain⟨y,b,rfl,h1,h2⟩:=h.inv_cons;exact .cons h1 (ih h2)
def LR.take {xs} {ys} (h:LR R xs ys) (n:Nat):LR R (xs.take n) (ys.take n):=
 ⟨by simp[h.1],fun j x y a hy=>by
  rw[gA3]at a hy
  split at a
  rename_i b
  rw[fJ3 b]at hy
  exact h.2 j x y a hy
  cases a⟩
def LR.drop {xs} {ys} (h:LR R xs ys) (n:Nat):LR R (xs.drop n) (ys.drop n):=
 ⟨by simp[h.1],fun j x y a hy=>by
  rw[gM3]at a hy
  exact h.2 _ x y a hy⟩
def LR.get {xs:aA PV} {ys:aA AV} (h:LR R xs ys) {x:PV} (b:xs[j]? =some x):∃y,ys[j]? =some y/\R x y:=by
 have a:j<ys.length:=by rw[<-h.1];exact(fE3.1 b).1
 exact⟨ys[j],by simp[a],h.2 j x _ b (by simp[a])⟩
def LR.mono {R'} {xs} {ys} (h:LR R xs ys) (c:∀x y,R x y->R' x y):LR R' xs ys:=⟨h.1,fun j x y a b=>c x y (h.2 j x y a b)⟩
def LR.set {xs} {ys} (h:LR R xs ys) {x} {y} (d:R x y) (n:Nat):LR R (xs.set n x) (ys.set n y):=
 ⟨by simp[h.1],fun j a b c hb=>by
  rw[gE3]at c hb
  split at c
  rename_i e;subst e
  rw[fJ3 rfl]at hb
  split at c
  split at hb
  cases c;cases hb;exact d
  cases hb
  cases c
  rename_i e
  rw[fM3 e]at hb
  exact h.2 j a b c hb⟩
def LR.setL {xs xs'} {ys ys'} (h:LR R xs ys) (h':LR R xs' ys') (o:Nat):LR R (Sim.setL xs o xs') (Sim.setL ys o ys'):=by
 induction xs' generalizing xs ys ys' o with
 |nil=>rw[h'.inv_nil];exact h
 |cons a as ih=>
  obtain⟨y,b,rfl,h1,h2⟩:=h'.inv_cons;exact ih (h.set h1 o) h2 (o+1)
end
def RR (rows:aA (aA PV)) (rows':aA (aA AV)):Prop:=
 rows.length=rows'.length/\∀(i:Nat) (r:aA PV) (r':aA AV),rows[i]? =some r->rows'[i]? =some r'->LR (RC true) r r'
def RR.is {p} {e} {rows} {rows'} (h:RR rows rows'):RC p (.is e rows) (.is e rows'):=
 .is h.1 (fun i r r' a b=>(h.2 i r r' a b).1) (fun i r r' j x y a b c d=>(h.2 i r r' a b).2 j x y c d)
def RR.of_is {rows} {rows'} (hl:rows.length=rows'.length)
   (hr:∀(i:Nat) (r:aA PV) (r':aA AV),rows[i]? =some r->rows'[i]? =some r'->r.length=r'.length)
   (hc:∀(i:Nat) (r:aA PV) (r':aA AV) (j:Nat) (x:PV) (y:AV),rows[i]? =some r->rows'[i]? =some r'->r[j]? =some x->r'[j]? =some y->RC true x y):RR rows rows':=
 ⟨hl,fun i r r' a b=>⟨hr i r r' a b,fun j x y c d=>hc i r r' j x y a b c d⟩⟩
def RR.nil:RR [] []:=⟨rfl,fun i r r' h=>by simp at h⟩
def RR.cons {r} {r'} {rows} {rows'} (h:LR (RC true) r r') (d:RR rows rows'):RR (r::rows) (r'::rows'):=
 ⟨by simp[d.1],fun j a b c hb=>by
  cases j with
  |zero=>simp at c hb;subst c hb;exact h
  |succ j=>simp at c hb;exact d.2 j a b c hb⟩
def RR.get {rows:aA (aA PV)} {rows':aA (aA AV)} (h:RR rows rows') {r:aA PV} (hr:rows[i]? =some r):∃r',rows'[i]? =some r'/\LR (RC true) r r':=by
 have a:i<rows'.length:=by rw[<-h.1];exact(fE3.1 hr).1
 exact⟨rows'[i],by simp[a],h.2 i r _ hr (by simp[a])⟩
def RR.append {a b} {a' b'} (h:RR a a') (k:RR b b'):RR (a++b) (a'++b'):=
 ⟨by simp[h.1,k.1],fun i r r' h1 h2=>by
  rw[hG3]at h1 h2
  rw[<-h.1]at h2
  split at h1
  rename_i hi;rw[fJ3 hi]at h2;exact h.2 i r r' h1 h2
  rename_i hi;rw[fM3 hi]at h2;exact k.2 _ r r' h1 h2⟩
def RR.take {a} {a'} (h:RR a a') (n:Nat):RR (a.take n) (a'.take n):=
 ⟨by simp[h.1],fun j x y b hy=>by
  rw[gA3]at b hy
  split at b
  rename_i c;rw[fJ3 c]at hy;exact h.2 j x y b hy
  cases b⟩
def RR.drop {a} {a'} (h:RR a a') (n:Nat):RR (a.drop n) (a'.drop n):=
 ⟨by simp[h.1],fun j x y b hy=>by
  rw[gM3]at b hy
  exact h.2 _ x y b hy⟩
def RR.set {a} {a'} (h:RR a a') {x} {y} (c:LR (RC true) x y) (n:Nat):RR (a.set n x) (a'.set n y):=
 ⟨by simp[h.1],fun j p q b hb=>by
  rw[gE3]at b hb
  split at b
  rename_i e;subst e
  rw[fJ3 rfl]at hb
  split at b
  split at hb
  cases b;cases hb;exact c
  cases hb
  cases b
  rename_i e
  rw[fM3 e]at hb
  exact h.2 j p q b hb⟩
def RR.replicate {r} {r'} (h:LR (RC true) r r') (n:Nat):RR (List.replicate n r) (List.replicate n r'):=
 ⟨by simp,fun i x y a hy=>by
  simp only[iG3]at a hy
  split at a
  grind
  cases a⟩
def ER (es:aA (PV×PV)) (es':aA (AV×AV)):Prop:=
 es.length=es'.length/\∀(j:Nat) (x:PV×PV) (y:AV×AV),es[j]? =some x->es'[j]? =some y->RC false x.1 y.1/\RC false x.2 y.2
def ER.im {es} {es'} (h:ER es es'):RC false (.im es) (.im es'):=.im h.1 (fun j x y a b=>(h.2 j x y a b).1) (fun j x y a b=>(h.2 j x y a b).2)
def RK (x:PV) (y:AV):Prop:=RC true x y\/∃cs cs',x=.agg cs/\y=.agg cs'/\LR (RC true) cs cs'
def RK.rc {x} {y} (h:RK x y):RC false x y:=by
 rcases h with h|⟨cs,cs',rfl,rfl,h⟩
 exact h.weak;exact .agg h.1 fun j x y a b=>(h.2 j x y a b).weak
def EM (es:aA (PV×PV)) (es':aA (AV×AV)):Prop:=
 es.length=es'.length/\∀(j:Nat) (x:PV×PV) (y:AV×AV),es[j]? =some x->es'[j]? =some y->RK x.1 y.1/\RK x.2 y.2
def EM.er {es} {es'} (h:EM es es'):ER es es':=⟨h.1,fun j x y a b=>⟨(h.2 j x y a b).1.rc,(h.2 j x y a b).2.rc⟩⟩
inductive Pl where
 |nil
 |atp (id ver e len:Nat)
structure Cx where
 f:Nat->Option Pl
 z:Nat->Option AO
 w:Nat->Option (Nat×Nat×Nat)
instance:CoeFun Cx fun _=>Nat->Option Pl:=⟨Cx.f⟩
def Cx.le (C C':Cx):Prop:=(∀k pl,C k=some pl->C' k=some pl)/\∀id o,C.z id=some o->C'.z id=some o
def Cx.le.refl (C:Cx):C.le C:=⟨fun _ _ h=>h,fun _ _ h=>h⟩
def Cx.le.trans {A B C:Cx} (h:A.le B) (k:B.le C):A.le C:=⟨fun a b c=>k.1 a b (h.1 a b c),fun a b c=>k.2 a b (h.2 a b c)⟩
def Nml (c:AV):Prop:=Sim.nameOK (fun _=>false) 1 c=true
def RC.nml {x} {y} (h:RC true x y):Nml y:=by cases h<;>rfl
def SL (n:Nat) (els:aA (aA AV)):Prop:=∀(i:Nat) (row:aA AV),n<=i->els[i]? =some row->∀c∈row,Nml c
def SL.exact {n} {els} (h:els.length<=n):SL n els:=fun i row hi hr=>by
 have:=(fE3.1 hr).1
 omega
def RZ (z:Nat->aB AO):Nat->PV->AV->Prop
 |0,x,y=>RC true x y
 |d+1,x,y=>RC true x y\/∃e rows id ver ty els,x=.is e rows/\y=.sl e id ver 0 rows.length none/\z id=some (.arr false ty e ver els)/\(rows.length<=els.length/\SL rows.length els)/\
   ∀(i:Nat) (r:aA PV) (r':aA AV),rows[i]? =some r->els[i]? =some r'->LR (RZ z d) r r'
def RZ.of {z} {d} {x} {y} (h:RC true x y):RZ z d x y:=by
 cases d with
 |zero=>exact h
 |succ d=>exact .inl h
def RZ.up1 {z}:∀{d} {x} {y},RZ z d x y->RZ z (d+1) x y
 |0,_,_,h=>.inl h
 |d+1,x,y,h=>by
  rcases h with h|⟨e,rows,id,ver,ty,els,h1,h2,h3,h4,h5⟩
  exact .inl h
  exact .inr ⟨e,rows,id,ver,ty,els,h1,h2,h3,h4,fun i r r' a b=>(h5 i r r' a b).mono fun x y h=>RZ.up1 h⟩
def RZ.up {z} {d d'} (hd:d<=d') {x} {y} (h:RZ z d x y):RZ z d' x y:=by
 induction hd with
 |refl=>exact h
 |step _ ih=>exact ih.up1
def RZ.mono {z z'} (c:∀id o,z id=some o->z' id=some o):∀{d} {x} {y},RZ z d x y->RZ z' d x y
 |0,_,_,h=>h
 |d+1,x,y,h=>by
  rcases h with h|⟨e,rows,id,ver,ty,els,h1,h2,h3,h4,h5⟩
  exact .inl h
  exact .inr ⟨e,rows,id,ver,ty,els,h1,h2,c _ _ h3,h4,fun i r r' a b=>(h5 i r r' a b).mono fun x y h=>RZ.mono c h⟩
def Jc (z:Nat->aB AO) (d:Nat) (rows:aA (aA PV)) (rows':aA (aA AV)):Prop:=
 rows.length=rows'.length/\∀(i:Nat) (r:aA PV) (r':aA AV),rows[i]? =some r->rows'[i]? =some r'->LR (RZ z d) r r'
def RR.z {z} {d} {rows} {rows'} (h:RR rows rows'):Jc z d rows rows':=⟨h.1,fun i r r' a b=>(h.2 i r r' a b).mono fun _ _ h=>RZ.of h⟩
def Jc.mono {z z'} (c:∀id o,z id=some o->z' id=some o) {d} {rows} {rows'} (h:Jc z d rows rows'):Jc z' d rows rows':=⟨h.1,fun i r r' a b=>(h.2 i r r' a b).mono fun _ _ h=>RZ.mono c h⟩
def Jc.up {z} {d d'} (hd:d<=d') {rows} {rows'} (h:Jc z d rows rows'):Jc z d' rows rows':=⟨h.1,fun i r r' a b=>(h.2 i r r' a b).mono fun _ _ h=>RZ.up hd h⟩
def Jc.nil {z} {d}:Jc z d [] []:=⟨rfl,fun i r r' h=>by simp at h⟩
def Jc.append {z} {d} {a b} {a' b'} (h:Jc z d a a') (k:Jc z d b b'):Jc z d (a++b) (a'++b'):=
 ⟨by simp[h.1,k.1],fun i r r' h1 h2=>by
  rw[hG3]at h1 h2
  rw[<-h.1]at h2
  split at h1
  rename_i hi;rw[fJ3 hi]at h2;exact h.2 i r r' h1 h2
  rename_i hi;rw[fM3 hi]at h2;exact k.2 _ r r' h1 h2⟩
def LS.set {rows:aA (aA PV)} {els:aA (aA AV)} (h:rows.length<=els.length/\SL rows.length els) {i:Nat} {x row:aA PV} {r:aA AV} (hi:rows[i]? =some row):(rows.set i x).length<=(els.set i r).length/\SL (rows.set i x).length (els.set i r):=by
 have b:=(fE3.1 hi).1;rw[hU3,hU3];refine⟨h.1,fun j row a hr=>?_⟩;rw[fU3 (by omega)]at hr;exact h.2 j row a hr
def SL.cut {rows} {els} (hr:RR rows (els.take rows.length)) (h:SL rows.length els) (n:Nat):SL n els:=fun i row _ a c hc=>by
 by_cases hi:i<rows.length
 have h2:(els.take rows.length)[i]? =some row:=by rw[gA3,fJ3 hi];exact a
 obtain⟨j,d⟩:=fQ3.1 hc
 have hl:=hr.2 i rows[i] row (by simp) h2
 have b:j<(rows[i]).length:=by rw[hl.1];exact(fE3.1 d).1
 exact(hl.2 j _ c (fP3 b) d).nml
 exact h i row (by omega) a c hc
def gH (L:Nat->aB AO) (w:Nat->aB (Nat×Nat×Nat)) (lim nS:Nat):Nat->Nat×Nat×Nat->TD->PV->AV->Prop
 |0,_,_,_,_=>False
 |d+1,sl,.nd ty e ks,x,y=>∃rows,x=.is e rows/\((rows=[]/\y=.v (.slice none 0 0))\/
   ∃id ver els,y=.sl e id ver 0 rows.length none/\w id=some sl/\lim<=id/\id<nS/\iA ty=false/\L id=some (.arr false ty e ver els)/\(rows.length<=els.length/\SL rows.length els)/\
    ∀(i:Nat) (r:aA PV) (r':aA AV),rows[i]? =some r->els[i]? =some r'->r.length=r'.length/\∀(j:Nat) (a:PV) (b:AV),r[j]? =some a->r'[j]? =some b->match gZ ks j with
     |none=>RC true a b
     |some t=>gH L w lim nS d (id,i,j) t a b)
def Ch (hs:aA (Nat×Nat×PV)) (i j:Nat):Prop:=∃x,(j,i,x)∈hs
inductive RV (C:Cx):PV->AV->Prop
 |cl {x:PV} {y:AV} (h:RC false x y):RV C x y
 |undef {y:AV}:RV C .undef y
 |ref {k o id ver e len:Nat} (h:C k=some (.atp id ver e len)):RV C (.ref k o) (.ptr id ver 0 o)
 |own {k id ver e len:Nat} (h:C k=some (.atp id ver e len)):RV C (.own k) (.sl e id ver 0 len none)
 |ownn {k:Nat} {y:AV} (h:C k=some .nil) (hy:y=.v (.slice none 0 0)):RV C (.own k) y
 |el {k i o id ver e len:Nat} (h:C k=some (.atp id ver e len)):RV C (.el k i o) (.ptr id ver i o)
 |map {k id ver e len:Nat} (h:C k=some (.atp id ver e len)):RV C (.map k) (.map id)
 |fn {f:FuncId} {a b:List PV} {a' b':List AV} (h1:a.length=a'.length) (h2:b.length=b'.length)
   (v1:∀(j:Nat) (x:PV) (y:AV),a[j]? =some x->a'[j]? =some y->RV C x y) (v2:∀(j:Nat) (x:PV) (y:AV),b[j]? =some x->b'[j]? =some y->RV C x y):RV C (.fn f a b) (.fn (.func f) a' b')
 |yld {k id ver e len:Nat} (h:C k=some (.atp id ver e len)):RV C (.yld k) (.fn (.yield id) [] [])
 |agg {cs:List PV} {cs':List AV} (hl:cs.length=cs'.length) (hc:∀(j:Nat) (x:PV) (y:AV),cs[j]? =some x->cs'[j]? =some y->RV C x y):RV C (.agg cs) (.agg cs')
 |tup {cs:List PV} {cs':List AV} (hl:cs.length=cs'.length) (hc:∀(j:Nat) (x:PV) (y:AV),cs[j]? =some x->cs'[j]? =some y->RV C x y):RV C (.tup cs) (.tup cs')
 |zs {d e:Nat} {rows:List (List PV)} {y:AV} (h:RZ C.z d (.is e rows) y):RV C (.zs d e rows) y
 |zp {cs:List PV} {y:AV} (h:(∃cs',y=.ip cs'/\LR (RC true) cs cs')\/∃id ver i ty e els row,y=.ptr id ver i 0/\C.z id=some (.arr false ty e ver els)/\els[i]? =some row/\LR (RC true) cs row):RV C (.zp cs) y
def RV.zpm {C C'} (d:∀id o,C.z id=some o->C'.z id=some o) {cs} {y} (h:RV C (.zp cs) y):RV C' (.zp cs) y:=by
 cases h with
 |cl h=>cases h
 |zp h=>exact .zp (h.imp id fun⟨id,ver,i,ty,e,els,row,a,b,c⟩=>⟨id,ver,i,ty,e,els,row,a,d _ _ b,c⟩)
def RV.mono {C C'} (a:C.le C') {x} {y} (h:RV C x y):RV C' x y:=by
 induction h with
 |cl h=>exact .cl h
 |undef=>exact .undef
 |ref h=>exact .ref (a.1 _ _ h)
 |own h=>exact .own (a.1 _ _ h)
 |ownn h hy=>exact .ownn (a.1 _ _ h) hy
 |el h=>exact .el (a.1 _ _ h)
 |map h=>exact .map (a.1 _ _ h)
 |yld h=>exact .yld (a.1 _ _ h)
 |fn h1 h2 v1 v2 i1 i2=>exact .fn h1 h2 i1 i2
 |agg hl hc ih=>exact .agg hl ih
 |tup hl hc ih=>exact .tup hl ih
 |zs h=>exact .zs (RZ.mono a.2 h)
 |zp h=>exact RV.zpm a.2 (.zp h)
def eU (C:Cx) (e:gL) (t:aA AV):Prop:=∀i v,fQ e i=some v->∃y,t[i]? =some y/\RV C v y
def StR:Bool->aB Ex->LoopState->aB IC->Prop
 |false,none,st,pend=>st=.ready/\pend=none
 |true,none,st,pend=>st=.busy
 |false,some (.exit i),st,pend=>st=.done/\pend=some (.exit i)
 |false,some .ret,st,pend=>st=.done/\pend=some .ret
 |_,_,_,_=>False
def TC (C:Cx) (L:Nat->aB AO) (lim nS d id:Nat) (ks:aA (Nat×TD)) (hs:aA (Nat×Nat×PV)) (i j:Nat) (a:PV) (b:AV):Prop:=match gZ ks j with
 |none=>RC true a b
 |some t=>(Ch hs i j/\∀x,(j,i,x)∈hs->RV C x b)\/(¬Ch hs i j/\gH L C.w lim nS d (id,i,j) t a b)
def gO (C:Cx) (L:Nat->aB AO) (lim nS:Nat):eT->Pl->Prop
 |.box cells,.atp id ver _ _=>lim<=id/\id<nS/\∃ty esz row,L id=some (.arr true ty esz ver [row])/\LR (RV C) cells row
 |.lst _ e _ rows,.nil=>rows=[]
 |.lst ty e g rows,.atp id ver e' len=>lim<=id/\id<nS/\e'=e/\len=rows.length/\∃els,L id=some (.arr false (Ct ty) e ver els)/\RR rows (els.take rows.length)/\(rows.length<=els.length/\SL rows.length els)/\(g=false->els.length=rows.length)
 |.mp es,.atp id _ _ _=>lim<=id/\id<nS/\∃es',L id=some (.map es')/\EM es es'
 |.tr _ rows hs,.nil=>rows=[]/\hs=[]
 |.tr (.nd ty e ks) rows hs,.atp id ver e' len=>lim<=id/\id<nS/\e'=e/\len=rows.length/\iA ty=false/\∃els d,L id=some (.arr false ty e ver els)/\(rows.length<=els.length/\SL rows.length els)/\
   ∀(i:Nat) (r:aA PV) (r':aA AV),rows[i]? =some r->els[i]? =some r'->r.length=r'.length/\∀(j:Nat) (a:PV) (b:AV),r[j]? =some a->r'[j]? =some b->TC C L lim nS d id ks hs i j a b
 |.fl fs,.atp id ver e len=>lim<=id/\id<nS/\e=1/\len=fs.length/\∃ty els,L id=some (.arr false ty 1 ver els)/\els.length=fs.length/\∀(i:Nat) (f:PV) (row:aA AV),fs[i]? =some f->els[i]? =some row->LR (RV C) [f] row
 |.loop N e ps a b busy fin,.atp id _ _ _=>lim<=id/\id<nS/\∃st pend tmps,L id=some (.loop st pend tmps ps (mY a) (mY b))/\tmps.length=N/\eU C e tmps/\StR busy fin st pend
 |_,_=>False
def nbO:AO->Bool
 |.arr bx _ _ _ _=> !bx
 |.map _=>true
 |_=>false
structure HR (C:Cx) (h:bA) (L:Nat->Option AO) (lim nS:Nat):Prop where
 ob:∀k po,aK h k=some po->∃pl,C k=some pl/\gO C L lim nS po pl
 inj:∀k k' id v e l v' e' l',aK h k≠none->aK h k'≠none->C k=some (.atp id v e l)->C k'=some (.atp id v' e' l')->k=k'
 zr:∀id o,C.z id=some o->L id=some o/\id<nS/\(∀k v e l,aK h k≠none->C k≠some (.atp id v e l))/\nbO o=true
 wn:∀k id v e l,aK h k≠none->C k=some (.atp id v e l)->C.w id=none
 wb:∀id sl,C.w id=some sl->id<nS/\sl.1<nS
 wz:∀id o,C.z id=some o->C.w id=none
def Own (C:Cx) (h:bA) (id:Nat):Prop:=(∃k v e l,aK h k≠none/\C k=some (.atp id v e l))\/C.w id≠none
def gP:aA mQ->aA mQ->Prop
 |[],[]=>True
 |.mark::a,.mark::b=>gP a b
 |.ob i _::a,.ob j _::b=>i=j/\gP a b
 |_,_=>False
def Sk (h h':aA mQ) (n:Nat):Prop:=∃pre r,h'=pre++r/\gP r h/\∀e∈pre,∃i o,e=.ob i o/\n<=i
def gP.refl:∀h,gP h h
 |[]=>trivial
 |.mark::a=>gP.refl a
 |.ob _ _::a=>⟨rfl,gP.refl a⟩
def gP.trans:∀{a b c},gP a b->gP b c->gP a c
 |[],[],[],_,_=>trivial
 |.mark::a,.mark::b,.mark::c,h,k=>gP.trans (a:=a) h k
 |.ob _ _::a,.ob _ _::b,.ob _ _::c,h,k=>⟨h.1.trans k.1,gP.trans h.2 k.2⟩
def gP.upd:∀h id o,gP (upd h id o) h
 |[],_,_=>trivial
 |.mark::a,id,o=>gP.upd a id o
 |.ob i o'::a,id,o=>by
  simp only[Sim.upd]
  split
  exact⟨rfl,.refl a⟩
  exact⟨rfl,gP.upd a id o⟩
def gP.split:∀{x pre r},gP x (pre++r)->∃p q,x=p++q/\gP p pre/\gP q r
 |x,[],r,h=>⟨[],x,rfl,trivial,h⟩
 |.mark::x,.mark::pre,r,h=>by
  obtain⟨p,q,rfl,h1,h2⟩:=gP.split (x:=x) (pre:=pre) (r:=r) h
  exact⟨.mark::p,q,rfl,h1,h2⟩
 |.ob i o::x,.ob j o'::pre,r,h=>by
  obtain⟨p,q,rfl,h1,h2⟩:=gP.split (x:=x) (pre:=pre) (r:=r) h.2
  exact⟨.ob i o::p,q,rfl,⟨h.1,h1⟩,h2⟩
 |[],.mark::_,_,h=>h.elim
 |[],.ob _ _::_,_,h=>h.elim
 |.mark::_,.ob _ _::_,_,h=>h.elim
 |.ob _ _::_,.mark::_,_,h=>h.elim
def gP.obs {n}:∀{p pre},gP p pre->(∀e∈pre,∃i o,e=.ob i o/\n<=i)->∀e∈p,∃i o,e=.ob i o/\n<=i
 |[],[],_,_,e,he=>by simp at he
 |.mark::p,.mark::pre,h,hp,e,he=>by simp_all
 |.ob i o::p,.ob j o'::pre,h,hp,e,he=>by
  rcases fT3.1 he with rfl|he
  obtain⟨b,a,k,hk⟩:=hp (.ob j o') (by simp)
  cases k
  exact⟨i,o,rfl,by rw[h.1];exact hk⟩
  exact gP.obs h.2 (fun e he=>hp e (by simp[he])) e he
def Sk.refl (h:aA mQ) (n:Nat):Sk h h n:=⟨[],h,rfl,.refl h,fun e he=>by simp at he⟩
def Sk.trans {a b c} {n m} (h:Sk a b n) (k:Sk b c m) (hn:n<=m):Sk a c n:=by
 obtain⟨p,r,rfl,h1,h2⟩:=h;obtain⟨q,r',rfl,f,g⟩:=k;obtain⟨x,y,rfl,d,e2⟩:=f.split;refine⟨q++x,y,by simp,e2.trans h1,fun e he=>?_⟩;rcases gK3.1 he with he|he
 grind
 exact d.obs h2 e he
def Sk.upd (h:aA mQ) (id:Nat) (o:AO) (n:Nat):Sk h (upd h id o) n:=⟨[],_,rfl,.upd h id o,fun e he=>by simp at he⟩
def Sk.new (h:aA mQ) (o:AO) (n:Nat):Sk h (.ob n o::h) n:=⟨[.ob n o],h,rfl,.refl h,fun e he=>by simp at he;exact⟨n,o,he,fI3 _⟩⟩
def Fi {n}:∀{pre r} {id},(∀e∈pre,∃i o,e=.ob i o/\n<=i)->id<n->Sim.look (pre++r) id=Sim.look r id
 |[],r,id,_,_=>rfl
 |e::pre,r,id,h,hid=>by
  obtain⟨i,o,rfl,hi⟩:=h e (by simp)
  simp only[hT3,Sim.look]
  rw[fM3 (by omega)]
  exact Fi (fun e he=>h e (by simp[he])) hid
def Ww {n}:∀{pre r},(∀e∈pre,∃i o,e=.ob i o/\n<=i)->∃a,Sim.popMark (pre++.mark::r)=a++r/\∀e∈a,∃i o,e=.ob i o/\n<=i
 |[],r,_=>⟨[],rfl,fun e he=>by simp at he⟩
 |e::pre,r,h=>by
  obtain⟨i,o,rfl,hi⟩:=h e (by simp)
  obtain⟨a,h1,h2⟩:=Ww (r:=r) (fun e he=>h e (gZ3 _ he))
  have keep:∃b,mQ.ob i o::Sim.popMark (pre++.mark::r)=b++r/\∀e∈b,∃i o,e=.ob i o/\n<=i:=
   ⟨.ob i o::a,by rw[h1];rfl,fun e he=>by
    rcases fT3.1 he with rfl|he
    exact⟨i,o,rfl,hi⟩
    exact h2 e he⟩
  simp only[hT3,Sim.popMark]
  split
  exact⟨a,h1,h2⟩
  exact keep
def Sk.pop {h h'} {n} (hs:Sk (.mark::h) h' n):Sk h (Sim.popMark h') n/\∀id,id<n->Sim.look (Sim.popMark h') id=Sim.look h' id:=by
 obtain⟨pre,r,rfl,h1,h2⟩:=hs
 match r,h1 with
 |.mark::r,h1=>
  obtain⟨b,d,c⟩:=Ww (r:=r) h2;rw[d];refine⟨⟨b,r,rfl,h1,c⟩,fun id a=>?_⟩;rw[Fi c a,Fi h2 a];rfl
end Go.P
namespace Go.P
open Go.Sim (AV AO Hp mQ upd St IC IX Ex iV CK Wf)
section
variable {R:Type}
def Jd (x:Value) (K:Value->aB R):Uf x K=K x:=by cases x<;>rfl
def fH1 (x:PV) (K:PV->aB R):fPV x K=K x:=by
 cases x<;>simp[fPV,Jd]
def rW:∀(xs:aA PV) (K:aA PV->aB R),vY xs K=K xs
 |[],K=>rfl
 |x::xs,K=>by simp[vY,fH1,rW xs]
def uE1:∀(xs:aA PV) (K:aA PV->aB R),fV.fT xs K=K xs
 |[],K=>rfl
 |x::xs,K=>by
  have ih:=fun K=>uE1 xs (K:aA PV->aB R)
  cases x<;>simp[fV.fT,fH1,rW,ih]
def Px (x:PV) (K:PV->aB R):fV x K=K x:=by
 cases x<;>simp[fV,Jd,rW,uE1]
def bJ {a b}:Nat.beq a b=decide (a=b):=by
 rw[Bool.eq_iff_iff];simp[Nat.beq_eq]
def kE:∀(e:gL) (i:Nat) (K:PV->aB R),tM e i K=(fQ e i).bind K
 |[],_,_=>rfl
 |(j,v)::r,i,K=>by
  simp only[tM,fQ,bJ]
  by_cases h:j=i<;>simp[h,kE r i K]
def iW:∀i js,xN i js=js.contains i
 |_,[]=>rfl
 |i,j::js=>by
  simp only[xN,bJ,List.contains_cons,iW i js]
  by_cases h:i=j<;>simp[h]
def edel:gL->aA Nat->gL
 |[],_=>[]
 |(j,v)::r,is=>if j∈is then edel r is else(j,v)::edel r is
def gE:∀(e:gL) (is:aA Nat) (K:gL->aB R),mF e is K=K (edel e is)
 |[],_,_=>rfl
 |(j,v)::r,is,K=>by
  simp only[mF,iW,edel]
  by_cases h:j∈is
  simp[h,gE r is K]
  simp[h,gE r is]
def Je:∀e is i,fQ (edel e is) i=if i∈is then none else fQ e i
 |[],is,i=>by simp[edel,fQ]
 |(j,v)::r,is,i=>by
  have ih:=Je r is i
  simp only[edel]
  by_cases h:j∈is
  rw[fJ3 h,ih]
  by_cases h2:j=i
  subst h2;simp[h]
  simp[fQ,h2]
  rw[fM3 h]
  by_cases h2:j=i
  subst h2;simp[fQ,h]
  simp only[fQ,fM3 h2,ih]
def evs (e:gL):aA PX->aB (aA PV)
 |[]=>some []
 |.t i::xs=>(fQ e i).bind fun v=>(evs e xs).bind fun vs=>some (v::vs)
 |.c x::xs=>(evs e xs).bind fun vs=>some (x::vs)
def kU (e:gL):∀(xs:aA PX) (K:aA PV->aB R),tN e xs K=(evs e xs).bind K
 |[],K=>rfl
 |.t i::xs,K=>by
  simp only[tN,kE,evs,jJ3]
  congr 1
  funext v
  rw[kU e xs]
  simp[jJ3]
 |.c x::xs,K=>by
  simp only[tN,evs,jJ3]
  rw[kU e xs]
  simp[jJ3]
def pH:∀(n:Nat) (l:aA PV) (K:aA PV->aB R) (r:R),qW n l K=some r->n<=l.length/\K (l.take n)=some r
 |0,l,K,r,h=>⟨gU3 _,by simpa[qW]using h⟩
 |n+1,[],K,r,h=>by simp[qW]at h
 |n+1,a::as,K,r,h=>by
  simp only[qW]at h
  obtain⟨h1,h2⟩:=pH n as _ r h
  exact⟨by simp;omega,by simpa using h2⟩
def gA:∀(n:Nat) (l:aA PV) (K:aA PV->aB R) (r:R),kK n l K=some r->n<=l.length/\K (l.drop n)=some r
 |0,l,K,r,h=>⟨gU3 _,by simpa[kK]using h⟩
 |n+1,[],K,r,h=>by simp[kK]at h
 |n+1,a::as,K,r,h=>by
  simp only[kK]at h
  obtain⟨h1,h2⟩:=gA n as _ r h
  exact⟨by simp;omega,by simpa using h2⟩
def rB {α} (a:α):∀cs as n,Sim.setL (a::as) (n+1) cs=a::Sim.setL as n cs
 |[],as,n=>rfl
 |c::cs,as,n=>by simp only[Sim.setL,List.set_cons_succ];exact rB a cs _ _
def lK:∀(l:aA PV) (o:Nat) (cs:aA PV) (K:aA PV->aB R) (r:R),vD l o cs K=some r->o+cs.length<=l.length/\K (Sim.setL l o cs)=some r
 |l,0,[],K,r,h=>⟨by simp,by simpa[vD,Sim.setL]using h⟩
 |[],0,c::cs,K,r,h=>by simp[vD]at h
 |[],n+1,cs,K,r,h=>by simp[vD]at h
 |a::as,0,c::cs,K,r,h=>by
  simp only[vD]at h
  obtain⟨h1,h2⟩:=lK as 0 cs _ r h
  refine⟨by simp;omega,?_⟩
  simp only[Sim.setL,List.set_cons_zero]
  rw[rB]
  exact h2
 |a::as,n+1,cs,K,r,h=>by
  simp only[vD]at h
  obtain⟨h1,h2⟩:=lK as n cs _ r h
  exact⟨by simp;omega,by rw[rB];exact h2⟩
def iC:∀(h:bA) (k:Nat) (K:eT->aB R),hK h k K=(aK h k).bind K
 |[],_,_=>rfl
 |(j,v)::r,i,K=>by
  simp only[hK,aK,bJ]
  by_cases h:j=i<;>simp[h,iC r i K]
def dB:bA->Nat->eT->bA
 |[],_,_=>[]
 |(j,v)::r,i,o=>if j=i then(j,o)::r else(j,v)::dB r i o
def eD:∀(h:bA) (k:Nat) (o:eT) (K:bA->aB R) (r:R),iF h k o K=some r->K (dB h k o)=some r
 |[],_,_,_,_,h=>by simp[iF]at h
 |(j,v)::t,i,o,K,r,h=>by
  simp only[iF,bJ]at h
  by_cases e:j=i
  simp only[e,hB3,fS3]at h
  simp only[dB,e,gF3];exact h
  simp only[e,hZ3,fZ3]at h
  simp only[dB,fM3 e]
  exact eD t i o _ r h
def eJ:∀h k o j,aK (dB h k o) j=if j=k/\(aK h k).isSome then some o else aK h j
 |[],k,o,j=>by simp[dB,aK]
 |(i,v)::r,k,o,j=>by
  have ih:=eJ r k o j
  by_cases h1:i=k
  subst h1
  simp only[dB,gF3,aK]
  by_cases h2:i=j
  subst h2;simp
  grind
  simp only[dB,fM3 h1,aK]
  by_cases h2:i=j
  subst h2;simp[h1]
  grind
def gU:PV->aB (aA PV)
 |.agg cs=>some cs
 |.tup _=>none
 |.undef=>none
 |x=>some [x]
def mL (x:PV) (K:aA PV->aB R):nF x K=(gU x).bind K:=by cases x<;>rfl
def pI {C} {x} {y} {cs} (h:RV C x y) (hc:gU x=some cs):∃cs',y.cells=some cs'/\LR (RV C) cs cs':=by
 have one:∀{z} {w},RV C z w->(∀l,w≠.agg l)->(∀l,w≠.tup l)->cs=[z]->∃cs',w.cells=some cs'/\LR (RV C) cs cs':=by
  intro z w f h1 h2 e;subst e;refine⟨[w],?_,.cons f .nil⟩;cases w<;>simp_all[AV.cells]
 cases h with
 |cl h=>
  cases h with
  |agg hl hc'=>simp[gU]at hc;subst hc;exact⟨_,rfl,hl,fun j x y a b=>.cl (hc' j x y a b)⟩
  |tup hl hc'=>simp[gU]at hc
  |v x=>exact one (.cl (.v x)) (by intro l e;cases e) (by intro l e;cases e) (by simpa[gU]using hc.symm)
  |is a b c=>exact one (.cl (.is a b c)) (by intro l e;cases e) (by intro l e;cases e) (by simpa[gU]using hc.symm)
  |isn=>exact one (.cl .isn) (by intro l e;cases e) (by intro l e;cases e) (by simpa[gU]using hc.symm)
  |ip a b=>exact one (.cl (.ip a b)) (by intro l e;cases e) (by intro l e;cases e) (by simpa[gU]using hc.symm)
  |im a b c=>exact one (.cl (.im a b c)) (by intro l e;cases e) (by intro l e;cases e) (by simpa[gU]using hc.symm)
  |fn a b c d=>exact one (.cl (.fn a b c d)) (by intro l e;cases e) (by intro l e;cases e) (by simpa[gU]using hc.symm)
 |undef=>simp[gU]at hc
 |agg hl hc'=>simp[gU]at hc;subst hc;exact⟨_,rfl,hl,hc'⟩
 |tup hl hc'=>simp[gU]at hc
 |ref h=>exact one (.ref h) (by intro l e;cases e) (by intro l e;cases e) (by simpa[gU]using hc.symm)
 |own h=>exact one (.own h) (by intro l e;cases e) (by intro l e;cases e) (by simpa[gU]using hc.symm)
 |ownn h hy=>subst hy;exact one (.ownn h rfl) (by intro l e;cases e) (by intro l e;cases e) (by simpa[gU]using hc.symm)
 |el h=>exact one (.el h) (by intro l e;cases e) (by intro l e;cases e) (by simpa[gU]using hc.symm)
 |map h=>exact one (.map h) (by intro l e;cases e) (by intro l e;cases e) (by simpa[gU]using hc.symm)
 |yld h=>exact one (.yld h) (by intro l e;cases e) (by intro l e;cases e) (by simpa[gU]using hc.symm)
 |fn a b c d=>exact one (.fn a b c d) (by intro l e;cases e) (by intro l e;cases e) (by simpa[gU]using hc.symm)
 |@zs d e rows y h=>
  refine one (.zs h) ?_ ?_ (by simpa[gU]using hc.symm);intro l e;subst e;cases d with
  |zero=>cases h
  |succ d=>rcases h with h|⟨_,_,_,_,_,_,_,h,_⟩<;>cases h
  intro l e;subst e;cases d with
  |zero=>cases h
  |succ d=>rcases h with h|⟨_,_,_,_,_,_,_,h,_⟩<;>cases h
 |zp h=>exact one (.zp h) (by rintro l rfl;rcases h with⟨_,h,_⟩|⟨_,_,_,_,_,_,_,h,_⟩<;>cases h) (by rintro l rfl;rcases h with⟨_,h,_⟩|⟨_,_,_,_,_,_,_,h,_⟩<;>cases h) (by simpa[gU]using hc.symm)
def Lf (a b:IntKind):kEq a b=decide (a=b):=by cases a<;>cases b<;>rfl
def LR.zero {C} (zero:aA Value):LR (RV C) (zero.map .v) (Sim.zeroRow zero):=by
 unfold Sim.zeroRow
 induction zero with
 |nil=>exact .nil
 |cons a as ih=>exact .cons (.cl (.v a)) ih
def SL.zero {n m} (zero:aA Value):SL n (List.replicate m (Sim.zeroRow zero)):=fun i row _ hr c hc=>by
 rw[iG3]at hr
 split at hr
 cases hr
 unfold Sim.zeroRow at hc
 obtain⟨x,_,rfl⟩:=iS3.1 hc
 rfl
 cases hr
def LR.zeroP (zero:aA Value):LR (RC true) (zero.map .v) (Sim.zeroRow zero):=by
 unfold Sim.zeroRow
 induction zero with
 |nil=>exact .nil
 |cons a as ih=>exact .cons (.v a) ih
def RV.plain {C} {x} {y} (h:RV C x y) (hp:iO x=true):RC true x y:=by
 cases h with
 |cl h=>exact h.plain hp
 |_=>simp[iO]at hp
def LR.plain {C} {xs} {ys} (h:LR (RV C) xs ys) (hp:xs.all iO=true):LR (RC true) xs ys:=
 ⟨h.1,fun j x y a b=>(h.2 j x y a b).plain (fH3.1 hp x (fL3 a))⟩
def xZ (e:Nat):∀(xs:aA PV) (K:aA (aA PV)->aB R) (r:R),xS e xs K=some r->∃rows,K rows=some r/\rows.length=xs.length/\
  ∀(i:Nat) (x:PV),xs[i]? =some x->∃cs,gU x=some cs/\cs.length=e/\cs.all iO=true/\rows[i]? =some cs
 |[],K,r,h=>⟨[],h,rfl,fun i x d=>by simp at d⟩
 |x::xs,K,r,h=>by
  simp only[xS,mL,fC3]at h
  obtain⟨cs,a,h⟩:=h
  by_cases hc:(Nat.beq cs.length e&&cs.all iO)=true
  rw[hc,fS3]at h
  simp only[fF3,bJ,fO3]at hc
  obtain⟨rows,h1,h2,b⟩:=xZ e xs _ r h
  refine⟨cs::rows,h1,by simp[h2],fun i y hy=>?_⟩
  cases i with
  |zero=>simp at hy;subst hy;exact⟨cs,a,hc.1,hc.2,rfl⟩
  |succ i=>simp at hy;obtain⟨c,f,g,j,k⟩:=b i y hy;exact⟨c,f,g,j,by simpa using k⟩
  grind
def Ab:∀i js,Lb i js=true->js=List.range' i js.length
 |_,[],_=>rfl
 |i,j::js,h=>by
  simp only[Lb,bJ]at h
  by_cases e:i=j
  simp only[e,hB3,fS3]at h
  subst e
  rw[gR3,List.range'_succ]
  congr 1
  exact Ab _ js h
  simp[e]at h
end
end Go.P
namespace Go.P
open Go.Sim (AV AO Hp mQ upd St IC IX Ex iV CK Wf Out doOp)
variable {C C':Cx} {L L':Nat->aB AO} {R:Type} {a lim n nS:Nat} {pl:Pl} {po:eT}
structure dR (C:Cx) (n:Nat) (h:bA) (lim:Nat) (s:Hp):Prop where
 hr:HR C h (Sim.look s.h) lim s.n
 dom:∀k pl,C k=some pl->k<n
 wf:Wf s.h s.n
 lim:lim<=s.n
def gX:eT->Bool
 |.lst ty _ _ _=>iA ty
 |.tr .. =>false
 |_=>true
structure Fr (C:Cx) (h:bA) (s:Hp) (C':Cx) (h':bA) (s':Hp):Prop where
 sk:Sk s.h s'.h s.n
 n:s.n<=s'.n
 keep:∀id,id<s.n->¬Own C h id->Sim.look s'.h id=Sim.look s.h id
 own:∀id,id<s.n->Own C' h' id->Own C h id
 kd:∀k o,aK h k=some o->∃o',aK h' k=some o'/\(gX o'=true->gX o=true/\C' k=C k)
 zl:∀id o,C.z id=some o->C'.z id=some o
 zn:∀id,id<s.n->C'.z id≠none->C.z id≠none\/Own C h id
def Fr.refl (C:Cx) (h:bA) (s:Hp):Fr C h s C h s:=⟨.refl _ _,fI3 _,fun _ _ _=>rfl,fun _ _ h=>h,fun k o h=>⟨o,h,fun hb=>⟨hb,rfl⟩⟩,fun _ _ h=>h,fun _ _ h=>.inl h⟩
def Fr.trans {C C' C''} {h h' h''} {s s' s''} (a:Fr C h s C' h' s') (b:Fr C' h' s' C'' h'' s''):Fr C h s C'' h'' s'':=
  ⟨a.sk.trans b.sk a.n,gH3 a.n b.n,fun id c hn=>by
    rw[b.keep id (gN3 c a.n) (fun e=>hn (a.own id c e)),a.keep id c hn],
   fun id c e=>a.own id c (b.own id (gN3 c a.n) e),
   fun k o hk=>by
    obtain⟨o',h1,h2⟩:=a.kd k o hk
    obtain⟨f,g,d⟩:=b.kd k o' h1
    exact⟨f,g,fun hb=>⟨(h2 (d hb).1).1,(d hb).2.trans (h2 (d hb).1).2⟩⟩,
   fun id o h=>b.zl id o (a.zl id o h),
   fun id c h=>by
    rcases b.zn id (gN3 c a.n) h with h1|h1
    exact a.zn id c h1
    exact .inr (a.own id c h1)⟩
def iG (C:Cx) (n:Nat) (h:bA) (lim:Nat) (s:Hp) (k:iV) (ys:aA AV) (K:PV->bA->Nat->aB R) (r:R):Prop:=
 ∃v h' n' C' out,K v h' n'=some r/\doOp (Sim.look s.h) lim s.n k ys=some out/\RV C' v out.v/\dR C' n' h' lim (out.apply s)/\
  C.le C'/\n<=n'/\Fr C h s C' h' (out.apply s)/\(Pv k=false->∀id,id<s.n->Sim.look (out.apply s).h id=Sim.look s.h id)
section
variable {h:bA} {s:Hp} {k:iV} {ys:List AV} {K:PV->bA->Nat->Option R} {r:R}
def bW (a:dR C n h lim s) {v} {y} (hd:doOp (Sim.look s.h) lim s.n k ys=some {v:=y}) (hv:RV C v y) (hK:K v h n=some r):iG C n h lim s k ys K r:=
 ⟨v,h,n,C,_,hK,hd,hv,a,.refl C,fI3 _,.refl _ _ _,fun _ _ _=>rfl⟩
def gG {h} {n} {o} {id}:Sim.look (.ob n o::h) id=if n=id then some o else Sim.look h id:=rfl
def ext (C:Cx) (n:Nat) (pl:Pl):Cx:=⟨fun k=>if k=n then some pl else C k,C.z,C.w⟩
def nH (a:dR C n h lim s) (pl:Pl):C.le (ext C n pl):=⟨fun k q hk=>by
 have:=a.dom k q hk
 simp only[ext]
 rw[fM3 (by omega)]
 exact hk,fun _ _ h=>h⟩
def gH.mono {L L':Nat->aB AO} {w w':Nat->aB (Nat×Nat×Nat)} {nS c:Nat} (hn:nS<=c) {B:Nat->Prop} (g:∀b,B b->w b=none) (k:∀o sl,w o=some sl->¬B sl.1->w' o=some sl/\L' o=L o):
  ∀{d} {sl} {t} {x} {y},¬B sl.1->gH L w lim nS d sl t x y->gH L' w' lim c d sl t x y
 |0,_,_,_,_,_,h=>h.elim
 |d+1,sl,.nd ty e ks,x,y,hb,h=>by
  obtain⟨rows,h1,h2⟩:=h
  refine⟨rows,h1,?_⟩
  rcases h2 with h2|⟨id,ver,els,k1,k2,k3,k4,kf,k5,k6,k7⟩
  exact .inl h2
  obtain⟨w1,w2⟩:=k id sl k2 hb
  have f:¬B id:=fun hc=>by rw[g id hc]at k2;cases k2
  refine .inr ⟨id,ver,els,k1,w1,k3,by omega,kf,w2.trans k5,k6,fun i r r' a b=>⟨(k7 i r r' a b).1,fun j l m a1 b1=>?_⟩⟩
  have:=(k7 i r r' a b).2 j l m a1 b1
  cases hk:gZ ks j with
  |none=>rw[hk]at this;exact this
  |some t=>rw[hk]at this;exact gH.mono hn g k f this
def gH.up1 {L} {w} {lim nS}:∀{d} {sl} {t} {x} {y},gH L w lim nS d sl t x y->gH L w lim nS (d+1) sl t x y
 |0,_,_,_,_,h=>h.elim
 |d+1,sl,.nd ty e ks,x,y,h=>by
  obtain⟨rows,h1,h2⟩:=h
  refine⟨rows,h1,?_⟩
  rcases h2 with h2|⟨id,ver,els,k1,k2,k3,k4,kf,k5,k6,k7⟩
  exact .inl h2
  refine .inr ⟨id,ver,els,k1,k2,k3,k4,kf,k5,k6,fun i r r' a b=>⟨(k7 i r r' a b).1,fun j c f a1 b1=>?_⟩⟩
  have:=(k7 i r r' a b).2 j c f a1 b1
  cases hk:gZ ks j with
  |none=>rw[hk]at this;exact this
  |some t=>rw[hk]at this;exact gH.up1 this
def gH.up {L} {w} {lim nS d d'} (hd:d<=d') {sl} {t} {x} {y} (h:gH L w lim nS d sl t x y):gH L w lim nS d' sl t x y:=by
 induction hd with
 |refl=>exact h
 |step _ ih=>exact ih.up1
def TC.mono {C':Cx} {L L':Nat->aB AO} {nS c d id i j:Nat} {ks:aA (Nat×TD)} {hs:aA (Nat×Nat×PV)} {a:PV} {b:AV} (hn:nS<=c) (f:C.le C') {B:Nat->Prop} (e:∀b,B b->C.w b=none) (g:∀o sl,C.w o=some sl->¬B sl.1->C'.w o=some sl/\L' o=L o) (hb:¬B id) (h:TC C L lim nS d id ks hs i j a b):TC C' L' lim c d id ks hs i j a b:=by
 unfold TC at h ⊢;cases hk:gZ ks j with
 |none=>rw[hk]at h;exact h
 |some t=>
  rw[hk]at h;simp only at h ⊢;rcases h with⟨h1,h2⟩|⟨h1,h2⟩
  exact .inl ⟨h1,fun x k=>RV.mono f (h2 x k)⟩;exact .inr ⟨h1,gH.mono hn e g hb h2⟩
def TC.none {C} {L} {nS d id i j} {ks} {hs} {a} {b} (hk:gZ ks j=none):TC C L lim nS d id ks hs i j a b↔RC true a b:=by
 unfold TC;rw[hk]
def gO.monoB {p:Nat} (hn:nS<=p) (s:C.le C') {B:Nat->Prop} (u:∀b,B b->C.w b=none) (z:∀o sl,C.w o=some sl->¬B sl.1->C'.w o=some sl/\L' o=L o) (hb:∀id ver e len,pl=.atp id ver e len->¬B id) (n:∀id ver e len,pl=.atp id ver e len->L' id=L id) (c:gO C L lim nS po pl):gO C' L' lim p po pl:=by
 cases po with
 |box cells=>
  cases pl with
  |nil=>exact c
  |atp id ver e len=>
   obtain⟨h1,h2,ty,esz,row,h,k⟩:=c;exact⟨h1,by omega,ty,esz,row,by rw[n id ver e len rfl];exact h,k.mono (fun x y hv=>hv.mono s)⟩
 |lst ty e g rows=>
  cases pl with
  |nil=>exact c
  |atp id ver e' len=>
   obtain⟨h1,h2,h,k,els,l,m⟩:=c;exact⟨h1,by omega,h,k,els,by rw[n id ver e' len rfl];exact l,m⟩
 |mp es=>
  cases pl with
  |nil=>exact c
  |atp id ver e len=>
   obtain⟨h1,h2,es',h,k⟩:=c;exact⟨h1,by omega,es',by rw[n id ver e len rfl];exact h,k⟩
 |fl fs=>
  cases pl with
  |nil=>exact c
  |atp id ver e len=>
   obtain⟨h1,h2,h,k,ty,els,l,m,q⟩:=c;exact⟨h1,by omega,h,k,ty,els,by rw[n id ver e len rfl];exact l,m,fun i f row a b=>(q i f row a b).mono (fun x y hv=>hv.mono s)⟩
 |loop N e ps a b busy fin=>
  cases pl with
  |nil=>exact c
  |atp id ver e' len=>
   obtain⟨h1,h2,st,pend,tmps,h,k,l,m⟩:=c;exact⟨h1,by omega,st,pend,tmps,by rw[n id ver e' len rfl];exact h,k,fun i v hv=>(l i v hv).imp fun y hy=>⟨hy.1,hy.2.mono s⟩,m⟩
 |tr t rows hs=>
  cases t with
  |nd ty e ks=>
  cases pl with
  |nil=>exact c
  |atp id ver e' len=>
   obtain⟨h1,h2,h,k,hf,els,d,l,m,q⟩:=c;exact⟨h1,by omega,h,k,hf,els,d,by rw[n id ver e' len rfl];exact l,m,fun i r r' a b=>⟨(q i r r' a b).1,fun j A D a1 b1=>((q i r r' a b).2 j A D a1 b1).mono hn s u z (hb id ver e' len rfl)⟩⟩
def gO.mono (hn:nS<=a) (b:C.le C') (c:∀id ver e len,pl=.atp id ver e len->L' id=L id) (d:∀o sl,C.w o=some sl->C'.w o=some sl/\L' o=L o) (f:gO C L lim nS po pl):gO C' L' lim a po pl:=
 f.monoB hn b (B:=fun _=>False) (fun _ h=>h.elim) (fun o sl h _=>d o sl h) (fun _ _ _ _ _ h=>h) c
def gO.lt {L} {nS id ver e len} {po} (c:gO C L lim nS po (.atp id ver e len)):lim<=id/\id<nS:=by
 cases po with
 |box cells=>exact⟨c.1,c.2.1⟩
 |lst ty e g rows=>exact⟨c.1,c.2.1⟩
 |mp es=>exact⟨c.1,c.2.1⟩
 |fl fs=>exact⟨c.1,c.2.1⟩
 |loop N e ps a b busy fin=>exact⟨c.1,c.2.1⟩
 |tr t rows hs=>cases t with|nd ty e ks=>exact⟨c.1,c.2.1⟩
def HR.lt {L} {nS} (H:HR C h L lim nS) {k id ver e len} (hk:aK h k≠none) (a:C k=some (.atp id ver e len)):lim<=id/\id<nS:=by
 cases ho:aK h k with
 |none=>exact absurd ho hk
 |some po=>
  obtain⟨pl,h1,h2⟩:=H.ob k po ho;rw[a]at h1;cases h1;exact h2.lt
def fI1 (a:dR C n h lim s) {k} (hk:n<=k):C k=none:=by
 cases hc:C k with
 |none=>rfl
 |some pl=>have:=a.dom k pl hc;omega
def uS (a:dR C n h lim s) {k} (hk:n<=k):aK h k=none:=by
 cases hc:aK h k with
 |none=>rfl
 |some po=>
  obtain⟨pl,h1,_⟩:=a.hr.ob k po hc;have:=a.dom k pl h1;omega
def uF1 (b:dR C n h lim s) {po} {pl}:∀k o,aK h k=some o->∃o',aK ((n,po)::h) k=some o'/\(gX o'=true->gX o=true/\ext C n pl k=C k):=fun k o hk=>by
 have a:n≠k:=fun e=>by rw[uS b (by omega)]at hk;cases hk
 exact⟨o,by simp[aK,a,hk],fun hb=>⟨hb,by simp[ext,Ne.symm a]⟩⟩
def rX (d:dR C n h lim s) {po} {ao} {ver e len} (A:gO (ext C n (.atp s.n ver e len)) (Sim.look (.ob s.n ao::s.h)) lim (s.n+1) po (.atp s.n ver e len)):
  dR (ext C n (.atp s.n ver e len)) (n+1) ((n,po)::h) lim {h:=.ob s.n ao::s.h,n:=s.n+1}/\Fr C h s (ext C n (.atp s.n ver e len)) ((n,po)::h) {h:=.ob s.n ao::s.h,n:=s.n+1}/\
  ∀id,id<s.n->Sim.look (.ob s.n ao::s.h) id=Sim.look s.h id:=by
 have r:=nH d (.atp s.n ver e len)
 have c:∀id,id<s.n->Sim.look (.ob s.n ao::s.h) id=Sim.look s.h id:=fun id j=>by
  rw[gG,fM3 (by omega)]
 have g:∀k,aK ((n,po)::h) k≠none->k≠n->aK h k≠none:=fun k hk m=>by
  simpa[aK,Ne.symm m]using hk
 have f:∀k q,k≠n->ext C n (.atp s.n ver e len) k=some q->C k=some q:=fun k q m hk=>by
  simpa[ext,m]using hk
 refine⟨⟨⟨fun k o hk=>?_,fun k k' id v1 i u v2 e2 D h1 h2 x y=>?_,fun id o B=>?_,fun k id v1 i u h1 h2=>?_,fun id sl hw=>⟨Nat.lt_succ_of_lt (d.hr.wb id sl hw).1,Nat.lt_succ_of_lt (d.hr.wb id sl hw).2⟩,d.hr.wz⟩,fun k pl hk=>?_,⟨by simp,d.wf⟩,by have:=d.lim;show lim<=s.n+1;omega⟩,⟨.new _ _ _,by simp,fun id j _=>c id j,fun id j p=>?_,uF1 d,fun _ _ h=>h,fun _ _ h=>.inl h⟩,c⟩;simp only[aK]at hk;split at hk;rename_i i;subst i;cases hk;exact⟨_,by simp[ext],A⟩;obtain⟨pl,z,t⟩:=d.hr.ob k o hk;refine⟨pl,r.1 _ _ z,t.mono (by simp) r (fun id ver e len hp=>?_) (fun o sl hw=>⟨hw,c o (d.hr.wb o sl hw).1⟩)⟩;subst hp;exact c id t.lt.2;by_cases a:k=n;by_cases b:k'=n;rw[a,b];exfalso;subst a;simp[ext]at x;have:=(d.hr.lt (g k' h2 b) (f k' _ b y)).2;omega;by_cases b:k'=n;exfalso;subst b;simp[ext]at y;have:=(d.hr.lt (g k h1 a) (f k _ a x)).2;omega;exact d.hr.inj k k' id v1 i u v2 e2 D (g k h1 a) (g k' h2 b) (f k _ a x) (f k' _ b y);obtain⟨z1,z2,z3,z4⟩:=d.hr.zr id o B;refine⟨(c id z2).trans z1,Nat.lt_succ_of_lt z2,fun k v e' l h1 h2=>?_,z4⟩;by_cases a:k=n;subst a;simp[ext]at h2;omega
 grind
 by_cases a:k=n;subst a;simp[ext]at h2;show C.w id=none
 cases hw:C.w id with
 |none=>rfl
 |some sl=>have:=(d.hr.wb id sl hw).1;omega
 exact d.hr.wn k id v1 i u (g k h1 a) (f k _ a h2);by_cases a:k=n;omega;have:=d.dom k pl (f k pl a hk);omega;rcases p with⟨k,v1,i,u,z,t⟩|p;by_cases a:k=n;subst a;simp[ext]at t;omega;exact .inl ⟨k,v1,i,u,g k z a,f k _ a t⟩;exact .inr p
def aK1 (C:Cx) (L:Nat->aB AO) (lim nS ty e:Nat) (g:Bool):gO C L lim nS (qZ ty e g) .nil:=by
 unfold qZ;cases Nat.ble 4294967296 e<;>rfl
def Uk (d:dR C n h lim s) {ty e} {g}:dR (ext C n .nil) (n+1) ((n,qZ ty e g)::h) lim s/\Fr C h s (ext C n .nil) ((n,qZ ty e g)::h) s:=by
 have p:=nH d .nil
 have f:∀k,aK ((n,qZ ty e g)::h) k≠none->k≠n->aK h k≠none:=fun k hk j=>by
  simpa[aK,Ne.symm j]using hk
 have c:∀k q,k≠n->ext C n .nil k=some q->C k=some q:=fun k q j hk=>by
  simpa[ext,j]using hk
 refine⟨⟨⟨fun k o hk=>?_,fun k k' id v1 i r v2 e2 A h1 h2 x y=>?_,fun id o z=>?_,fun k id v1 i r h1 h2=>?_,d.hr.wb,d.hr.wz⟩,fun k pl hk=>?_,d.wf,d.lim⟩,⟨.refl _ _,fI3 _,fun id u _=>rfl,fun id u m=>?_,uF1 d,fun _ _ h=>h,fun _ _ h=>.inl h⟩⟩;simp only[aK]at hk;split at hk;rename_i i;subst i;cases hk;exact⟨.nil,by simp[ext],aK1 ..⟩;obtain⟨pl,w,t⟩:=d.hr.ob k o hk;exact⟨pl,p.1 _ _ w,t.mono (fI3 _) p (fun _ _ _ _ _=>rfl) (fun _ _ hw=>⟨hw,rfl⟩)⟩;by_cases a:k=n;subst a;simp[ext]at x;by_cases b:k'=n;subst b;simp[ext]at y;exact d.hr.inj k k' id v1 i r v2 e2 A (f k h1 a) (f k' h2 b) (c k _ a x) (c k' _ b y);obtain⟨z1,z2,z3,z4⟩:=d.hr.zr id o z;refine⟨z1,z2,fun k v e' l h1 h2=>?_,z4⟩;by_cases a:k=n;subst a;simp[ext]at h2
 grind
 by_cases a:k=n;subst a;simp[ext]at h2;exact d.hr.wn k id v1 i r (f k h1 a) (c k _ a h2);by_cases a:k=n;omega;have:=d.dom k pl (c k pl a hk);omega;rcases m with⟨k,v1,i,r,w,t⟩|m;by_cases a:k=n;subst a;simp[ext]at t;exact .inl ⟨k,v1,i,r,f k w a,c k _ a t⟩;exact .inr m
def tS (c:dR C n h lim s) {k id ver e len} {po po'} {ao} (hk:aK h k=some po) (p:C k=some (.atp id ver e len))
  (A:gO C (Sim.look (upd s.h id ao)) lim s.n po' (.atp id ver e len)) (hb:gX po'=gX po):
  dR C n (dB h k po') lim {h:=upd s.h id ao,n:=s.n}/\Fr C h s C (dB h k po') {h:=upd s.h id ao,n:=s.n}:=by
 have g:∀j,aK (dB h k po') j=if j=k then some po' else aK h j:=fun j=>by
  rw[eJ];simp[hk]
 have d:∀j,aK (dB h k po') j≠none->aK h j≠none:=fun j f=>by grind
 have a:∀j,j≠id->Sim.look (upd s.h id ao) j=Sim.look s.h j:=fun j f=>by
  rw[Sim.look_upd];simp[f]
 refine⟨⟨⟨fun j o f=>?_,fun j u i v1 b m v2 e2 z h1 h2 w x=>c.hr.inj j u i v1 b m v2 e2 z (d j h1) (d u h2) w x,fun i o y=>?_,fun j i v1 b m h1 h2=>c.hr.wn j i v1 b m (d j h1) h2,c.hr.wb,c.hr.wz⟩,c.dom,c.wf.upd _ _,c.lim⟩,⟨.upd _ _ _ _,fI3 _,fun i hi hn=>a i (fun b=>hn ?_),fun i hi hn=>?_,fun j o f=>?_,fun _ _ h=>h,fun _ _ h=>.inl h⟩⟩;rw[g]at f;split at f
 grind
 rename_i r;obtain⟨pl,q,t⟩:=c.hr.ob j o f;refine⟨pl,q,t.mono (fI3 _) (.refl C) (fun i v1 b m hp=>a i (fun e2=>r ?_)) (fun o sl hw=>⟨hw,a o fun e2=>by rw[e2,c.hr.wn k id ver e len (by rw[hk];simp) p]at hw;cases hw⟩)⟩;subst hp;subst e2;exact c.hr.inj j k i v1 b m ver e len (by rw[f];simp) (by rw[hk];simp) q p;obtain⟨z1,z2,z3,z4⟩:=c.hr.zr i o y;refine⟨(a i (fun b=>?_)).trans z1,z2,fun j v e' l h1 h2=>z3 j v e' l (d j h1) h2,z4⟩;subst b;exact z3 k ver e len (by rw[hk];simp) p;subst b;exact .inl ⟨k,ver,e,len,by rw[hk];simp,p⟩;rcases hn with⟨j,v1,b,m,q,t⟩|hn;exact .inl ⟨j,v1,b,m,d j q,t⟩;exact .inr hn
 grind
end
end Go.P
namespace Go.P
open Go.Sim (AV AO Hp mQ upd St IC IX Ex iV CK Wf Out doOp)
variable {A R α:Type} {C:Cx} {els:aA (aA AV)} {i j lim m n o:Nat} {row:aA PV} {rows:aA (aA PV)}
section
variable {y:AV}
def iX {x} (h:RV C (.v x) y):y=.v x:=by cases h with|cl h=>cases h;rfl
def nI {cs} (h:RV C (.agg cs) y):∃cs',y=.agg cs'/\LR (RV C) cs cs':=by
 cases h with
 |cl h=>cases h with|agg a b=>exact⟨_,rfl,a,fun j x y p q=>.cl (b j x y p q)⟩
 |agg a b=>exact⟨_,rfl,a,b⟩
def Ac {cs} (h:RV C (.tup cs) y):∃cs',y=.tup cs'/\LR (RV C) cs cs':=by
 cases h with
 |cl h=>cases h with|tup a b=>exact⟨_,rfl,a,fun j x y p q=>.cl (b j x y p q)⟩
 |tup a b=>exact⟨_,rfl,a,b⟩
def Bt {cs} (h:RV C (.ip cs) y):∃cs',y=.ip cs'/\LR (RC false) cs cs':=by
 cases h with
 |cl h=>cases h with|ip a b=>exact⟨_,rfl,a,b⟩
def Wx {e} {rows} (h:RV C (.is e rows) y):(∃rows',y=.is e rows'/\RR rows rows')\/(rows=[]/\(y=.v (.slice none 0 0)\/y=.es)):=by
 cases h with
 |cl h=>cases h with
  |is a b c=>exact .inl ⟨_,rfl,.of_is a b c⟩
  |isn=>exact .inr ⟨rfl,.inl rfl⟩
def Wy {es} (h:RV C (.im es) y):∃es',y=.im es'/\ER es es':=by
 cases h with
 |cl h=>cases h with|im a b c=>exact⟨_,rfl,a,fun j x y p q=>⟨b j x y p q,c j x y p q⟩⟩
def mG {k o} (h:RV C (.ref k o) y):∃id ver e len,C k=some (.atp id ver e len)/\y=.ptr id ver 0 o:=by
 cases h with
 |cl h=>cases h
 |ref h=>exact⟨_,_,_,_,h,rfl⟩
def lB {k} (h:RV C (.own k) y):(∃id ver e len,C k=some (.atp id ver e len)/\y=.sl e id ver 0 len none)\/(C k=some .nil/\(y=.v (.slice none 0 0)\/y=.es)):=by
 cases h with
 |cl h=>cases h
 |own h=>exact .inl ⟨_,_,_,_,h,rfl⟩
 |ownn h hy=>exact .inr ⟨h,.inl hy⟩
def wC {e} {rows} (h:RV C (.is e rows) y):(∃rows',y=.is e rows'/\RR rows rows')\/(rows=[]/\y=.v (.slice none 0 0)):=by
 cases h with
 |cl h=>cases h with
  |is a b c=>exact .inl ⟨_,rfl,.of_is a b c⟩
  |isn=>exact .inr ⟨rfl,rfl⟩
def hJ {k} (h:RV C (.own k) y):(∃id ver e len,C k=some (.atp id ver e len)/\y=.sl e id ver 0 len none)\/(C k=some .nil/\y=.v (.slice none 0 0)):=by
 cases h with
 |cl h=>cases h
 |own h=>exact .inl ⟨_,_,_,_,h,rfl⟩
 |ownn h hy=>exact .inr ⟨h,hy⟩
def tT {k i o} (h:RV C (.el k i o) y):∃id ver e len,C k=some (.atp id ver e len)/\y=.ptr id ver i o:=by
 cases h with
 |cl h=>cases h
 |el h=>exact⟨_,_,_,_,h,rfl⟩
def Ad {k} (h:RV C (.map k) y):∃id ver e len,C k=some (.atp id ver e len)/\y=.map id:=by
 cases h with
 |cl h=>cases h
 |map h=>exact⟨_,_,_,_,h,rfl⟩
def Lg {k} (h:RV C (.yld k) y):∃id ver e len,C k=some (.atp id ver e len)/\y=.fn (.yield id) [] []:=by
 cases h with
 |cl h=>cases h
 |yld h=>exact⟨_,_,_,_,h,rfl⟩
def tU {f} {a b} (h:RV C (.fn f a b) y):∃a' b',y=.fn (.func f) a' b'/\LR (RV C) a a'/\LR (RV C) b b':=by
 cases h with
 |cl h=>cases h with|fn p q r s=>exact⟨_,_,rfl,⟨p,fun j x y h1 h2=>.cl (r j x y h1 h2)⟩,⟨q,fun j x y h1 h2=>.cl (s j x y h1 h2)⟩⟩
 |fn p q r s=>exact⟨_,_,rfl,⟨p,r⟩,⟨q,s⟩⟩
def LR.closed {xs} {ys} {p} (h:LR (RC p) xs ys):LR (RV C) xs ys:=h.mono fun _ _ h=>.cl h.weak
def Ae {l:aA α} {c:α} {t:aA α} (h:l.drop o=c::t):l[o]? =some c:=by
 have:=congrArg (fun l=>l[0]?) h;simpa[gM3]using this
end
section
variable {h:bA} {s:Hp} {k:iV} {xs:List PV} {ys:List AV} {K:PV->bA->Nat->Option R} {r:R}
def pJ (C:Cx) (n:Nat) (pl:Pl):ext C n pl n=some pl:=fJ3 rfl
def aD {a:A} {P:Prop} (h:(none:aB A)=some a):P:=by cases h
def wY1 (a:dR C n h lim s) (b:LR (RV C) xs ys) (hk:fZ .mov xs h n K=some r):iG C n h lim s .mov ys K r:=by
 rcases xs with _|⟨x,_|⟨x2,t⟩⟩
 exact aD hk;have hk:K x h n=some r:=hk;obtain⟨y,_,rfl,h1,h2⟩:=b.inv_cons;rw[h2.inv_nil];exact bW a rfl h1 hk;exact aD hk
def mO1 (c:dR C n h lim s) (d:LR (RV C) xs ys) (hk:fZ .nilc xs h n K=some r):iG C n h lim s .nilc ys K r:=by
 rcases xs with _|⟨x,_|⟨x2,t⟩⟩
 exact aD hk;obtain⟨y,_,rfl,h1,h2⟩:=d.inv_cons;rw[h2.inv_nil];cases x with
 |ref k o=>obtain⟨id,ver,e,len,hc,rfl⟩:=mG h1;exact bW c rfl h1 hk
 |ip cs=>obtain⟨cs',rfl,_⟩:=Bt h1;exact bW c rfl h1 hk
 |el k i o=>obtain⟨id,ver,e,len,hc,rfl⟩:=tT h1;exact bW c rfl h1 hk
 |fn f a b=>obtain⟨a',b',rfl,_⟩:=tU h1;exact bW c rfl h1 hk
 |yld k=>obtain⟨id,ver,e,len,hc,rfl⟩:=Lg h1;exact bW c rfl h1 hk
 |_=>exact aD hk
 exact aD hk
def wZ1 {ty:TypeId} {size:Nat} (b:dR C n h lim s) (g:LR (RV C) xs ys) (hk:fZ (.box ty size) xs h n K=some r):iG C n h lim s (.box ty size) ys K r:=by
 rcases xs with _|⟨x,_|⟨x2,t⟩⟩
 exact aD hk;have hk:nF x (fun cs=>bif Nat.beq cs.length size then(bif Nat.beq size 0 then none else K (.ref n 0) ((n,.box cs)::h) (n+1))else none)=some r:=hk;obtain⟨y,_,rfl,h1,h2⟩:=g.inv_cons;rw[h2.inv_nil];rw[mL,fC3]at hk;obtain⟨cs,d,hk⟩:=hk;obtain⟨cs',c,hl⟩:=pI h1 d;rw[bJ]at hk;by_cases f:cs.length=size;rw[gP3 f,fS3,bJ]at hk;by_cases e2:size=0
 grind
 rw[gJ3 e2,fZ3]at hk;have a:=nH b (.atp s.n 0 size 1);obtain⟨i,j,k⟩:=rX b (po:=.box cs) (ao:=.arr true ty size 0 [cs']) (ver:=0) (e:=size) (len:=1) ⟨b.lim,by omega,ty,size,cs',by rw[gG,fJ3 rfl],hl.mono (fun _ _ h=>h.mono a)⟩;refine⟨_,_,_,_,{v:=.ptr s.n 0 0 0,new:=some (.arr true ty size 0 [cs'])},hk,?_,.ref (pJ C n _),i,a,by omega,j,fun _=>k⟩;simp only[doOp,c];rw[fJ3 ⟨by rw[<-hl.1];exact f,e2⟩]
 grind
 exact aD hk
def fJ1 {ty:TypeId} {zero:aA Value} (a:dR C n h lim s) (c:LR (RV C) xs ys) (hk:fZ (.alloc ty zero) xs h n K=some r):iG C n h lim s (.alloc ty zero) ys K r:=by
 rcases xs with _|⟨x,t⟩
 have hk:vY (zero.map .v) (fun cs=>K (.ref n 0) ((n,.box cs)::h) (n+1))=some r:=hk;rw[rW]at hk;rw[c.inv_nil];have b:=nH a (.atp s.n 0 zero.length 1);obtain⟨d,f,g⟩:=rX a (po:=.box (zero.map .v)) (ao:=.arr true ty zero.length 0 [Sim.zeroRow zero]) (ver:=0) (e:=zero.length) (len:=1) ⟨a.lim,by omega,ty,zero.length,Sim.zeroRow zero,by rw[gG,fJ3 rfl],LR.zero zero⟩;exact⟨_,_,_,_,{v:=.ptr s.n 0 0 0,new:=some (.arr true ty zero.length 0 [Sim.zeroRow zero])},hk,rfl,.ref (pJ C n _),d,b,by omega,f,fun _=>g⟩;exact aD hk
def Fj:∀(cells:aA PV) (parts:aA (Nat×Nat)) (xs:aA PV) (K:aA PV->aB R) (r:R) (a ys:aA AV),Pk cells parts xs K=some r->LR (RV C) cells a->LR (RV C) xs ys->
  ∃cs cs',K cs=some r/\Sim.fillParts a parts ys=some cs'/\LR (RV C) cs cs'
 |cells,[],[],K,r,a,ys,h,hl,hx=>by
  rw[hx.inv_nil]
  exact⟨cells,a,h,rfl,hl⟩
 |cells,(off,m)::ps,x::xs,K,r,a,ys,h,hl,hx=>by
  obtain⟨y,e,rfl,h1,h2⟩:=hx.inv_cons
  simp only[Pk,mL,fC3]at h
  obtain⟨cs,d,h⟩:=h
  obtain⟨cs',c,b⟩:=pI h1 d
  rw[bJ]at h
  by_cases f:cs.length=m
  rw[gP3 f,fS3]at h
  obtain⟨j,g⟩:=lK _ _ _ _ _ h
  obtain⟨q,i,q1,q2,q3⟩:=Fj _ ps xs K r _ e g (hl.setL b off) h2
  refine⟨q,i,q1,?_,q3⟩
  simp only[Sim.fillParts,c]
  rw[fJ3 ⟨by rw[<-b.1];exact f,by rw[<-hl.1];omega⟩]
  exact q2
  grind
 |cells,[],_::_,K,r,a,ys,h,hl,hx=>aD h
 |cells,_::_,[],K,r,a,ys,h,hl,hx=>aD h
def fK1 {zero} {parts} (e:dR C n h lim s) (f:LR (RV C) xs ys) (hk:fZ (.build zero parts) xs h n K=some r):iG C n h lim s (.build zero parts) ys K r:=by
 have hk:vY (zero.map .v) (fun cs=>Pk cs parts xs fun cs=>K (.agg cs) h n)=some r:=by
  rcases xs with _|⟨a,_|⟨b,_|⟨c,t⟩⟩⟩<;>exact hk
 rw[rW]at hk;obtain⟨cs,cs',g,i,d⟩:=Fj _ _ _ _ _ _ _ hk (LR.zero (C:=C) zero) f;refine bW e ?_ (.agg d.1 d.2) g;rcases ys with _|⟨a,_|⟨b,_|⟨c,t⟩⟩⟩<;>simp[doOp,i]
def Af (f:dR C n h lim s) {k id ver e len} {cs} (hg:aK h k=some (.box cs)) (d:C k=some (.atp id ver e len)):lim<=id/\∃ty esz row,Sim.look s.h id=some (.arr true ty esz ver [row])/\LR (RV C) cs row:=by
 obtain⟨pl,h1,h2⟩:=f.hr.ob k _ hg;rw[d]at h1;cases h1;obtain⟨a,b,c⟩:=h2;exact⟨a,c⟩
def lS (j:dR C n h lim s) {k id ver e len e2 ty} {g} {rows} (hg:aK h k=some (.lst ty e2 g rows)) (i:C k=some (.atp id ver e len)):lim<=id/\e=e2/\len=rows.length/\∃els,Sim.look s.h id=some (.arr false (Ct ty) e2 ver els)/\RR rows (els.take rows.length)/\(rows.length<=els.length/\SL rows.length els)/\(g=false->els.length=rows.length):=by
 obtain⟨pl,h1,h2⟩:=j.hr.ob k _ hg;rw[i]at h1;cases h1;obtain⟨a,b,c,d,f⟩:=h2;exact⟨a,c,d,f⟩
def fL1 (j:dR C n h lim s) {k id ver e len} {fs} (hg:aK h k=some (.fl fs)) (g:C k=some (.atp id ver e len)):lim<=id/\e=1/\len=fs.length/\∃ty els,Sim.look s.h id=some (.arr false ty 1 ver els)/\els.length=fs.length/\∀(i:Nat) (f:PV) (row:aA AV),fs[i]? =some f->els[i]? =some row->LR (RV C) [f] row:=by
 obtain⟨pl,h1,h2⟩:=j.hr.ob k _ hg;rw[g]at h1;cases h1;obtain⟨a,b,c,d,f⟩:=h2;exact⟨a,c,d,f⟩
def fM1 (b:dR C n h lim s) {k} {fs} (hg:aK h k=some (.fl fs)) (a:C k=some .nil):False:=by
 obtain⟨pl,h1,h2⟩:=b.hr.ob k _ hg;rw[a]at h1;cases h1;exact h2
def mZ (b:dR C n h lim s) {k e2 ty} {g} {rows} (hg:aK h k=some (.lst ty e2 g rows)) (a:C k=some .nil):rows=[]:=by
 obtain⟨pl,h1,h2⟩:=b.hr.ob k _ hg;rw[a]at h1;cases h1;exact h2
def Py (f:dR C n h lim s) {k id ver e len} {es} (hg:aK h k=some (.mp es)) (d:C k=some (.atp id ver e len)):lim<=id/\∃es',Sim.look s.h id=some (.map es')/\EM es es':=by
 obtain⟨pl,h1,h2⟩:=f.hr.ob k _ hg;rw[d]at h1;cases h1;obtain⟨a,b,c⟩:=h2;exact⟨a,c⟩
def yA {y} {d e} {rows} (h:RV C (.zs d e rows) y):RZ C.z d (.is e rows) y:=by
 cases h with
 |cl h=>cases h
 |zs h=>exact h
def uH1 {p} {e} {rows} {y} (h:RC p (.is e rows) y):(∃rows',y=.is e rows'/\RR rows rows')\/(rows=[]/\y=.v (.slice none 0 0)):=by
 cases h with
 |is a b c=>exact .inl ⟨_,rfl,.of_is a b c⟩
 |isn=>exact .inr ⟨rfl,rfl⟩
def Fk {z} {d e} {rows} {y} (h:RZ z d (.is e rows) y):
  ((∃rows',y=.is e rows'/\RR rows rows')\/(rows=[]/\y=.v (.slice none 0 0)))\/∃c id ver ty els,d=c+1/\y=.sl e id ver 0 rows.length none/\z id=some (.arr false ty e ver els)/\rows.length<=els.length/\Jc z c rows (els.take rows.length):=by
 cases d with
 |zero=>exact .inl (uH1 h)
 |succ d=>
  rcases h with h|⟨e',rows',id,ver,ty,els,h1,h2,h3,h4,h5⟩
  exact .inl (uH1 h);cases h1;refine .inr ⟨d,id,ver,ty,els,rfl,h2,h3,h4.1,by simp[hI3 h4.1],fun i r r' a b=>h5 i r r' a ?_⟩;rw[gA3]at b;split at b;exact b;cases b
def nA (f:dR C n h lim s) {k id ver e len e2 ty} {ks} {rows} {hs} (hg:aK h k=some (.tr (.nd ty e2 ks) rows hs)) (c:C k=some (.atp id ver e len)):lim<=id/\id<s.n/\e=e2/\len=rows.length/\iA ty=false/\∃els d,Sim.look s.h id=some (.arr false ty e2 ver els)/\(rows.length<=els.length/\SL rows.length els)/\
  ∀i r r',rows[i]? =some r->els[i]? =some r'->r.length=r'.length/\∀j a b,r[j]? =some a->r'[j]? =some b->TC C (Sim.look s.h) lim s.n d id ks hs i j a b:=by
 obtain⟨pl,h1,h2⟩:=f.hr.ob k _ hg;rw[c]at h1;cases h1;exact h2
def tV (b:dR C n h lim s) {k} {t} {rows} {hs} (hg:aK h k=some (.tr t rows hs)) (a:C k=some .nil):rows=[]/\hs=[]:=by
 obtain⟨pl,h1,h2⟩:=b.hr.ob k _ hg;rw[a]at h1;cases h1;cases t;exact h2
def Ah (a:rows.length<=els.length/\SL rows.length els) (hi:rows[i]? =some row):∃b,els[i]? =some b:=by
 have c:=a.1;have d:i<rows.length:=(fE3.1 hi).1;exact⟨els[i]'(by omega),by simp⟩
def nB {α}:∀(cs l:aA α) (o:Nat),(Sim.setL l o cs).length=l.length
 |[],_,_=>rfl
 |c::cs,l,o=>by
  show(Sim.setL (l.set o c) (o+1) cs).length=_
  rw[nB cs,hU3]
def lC {α}:∀{cs l:aA α} {o j:Nat},(j<o\/o+cs.length<=j)->(Sim.setL l o cs)[j]? =l[j]?
 |[],_,_,_,_=>rfl
 |c::cs,l,o,j,h=>by
  show(Sim.setL (l.set o c) (o+1) cs)[j]? =_
  simp only[gR3]at h
  rw[lC (by omega),fU3 (by omega)]
def rY {α}:∀{cs l:aA α} {o j:Nat},o+cs.length<=l.length->o<=j->j<o+cs.length->(Sim.setL l o cs)[j]? =cs[j-o]?
 |[],_,o,j,_,h1,h2=>by simp at h2;omega
 |c::cs,l,o,j,h,h1,h2=>by
  show(Sim.setL (l.set o c) (o+1) cs)[j]? =_
  simp only[gR3]at h h2
  by_cases e:j=o
  subst e
  rw[lC (by omega),gE3]
  simp
  omega
  rw[rY (by simpa using(by omega:o+1+cs.length<=l.length)) (by omega) (by omega),show j-o=(j-(o+1))+1 by omega,List.getElem?_cons_succ]
def wD {ks}:∀(cs:aA PV) (o:Nat) (K:aA PV->aB R) (r:R),xT ks o cs K=some r->∃cs',K cs'=some r/\cs'.length=cs.length/\∀(j:Nat) (a':PV),cs'[j]? =some a'->(∃a,cs[j]? =some a/\gZ ks (o+j)=none/\a'=a)\/a'=.undef
 |[],o,K,r,h=>⟨[],h,rfl,fun j a h=>by simp at h⟩
 |x::xs,o,K,r,h=>by
  unfold xT at h
  have step:∀(b:PV),((b=x/\gZ ks o=none)\/b=.undef)->xT ks (o+1) xs (fun xs=>K (b::xs))=some r->∃cs',K cs'=some r/\cs'.length=(x::xs).length/\∀(j:Nat) (a':PV),cs'[j]? =some a'->(∃a,(x::xs)[j]? =some a/\gZ ks (o+j)=none/\a'=a)\/a'=.undef:=fun b e h=>by
   obtain⟨cs',h1,h2,d⟩:=wD xs (o+1) _ r h
   refine⟨b::cs',h1,by simp[h2],fun j a' c=>?_⟩
   cases j with
   |zero=>
    simp only[hF3,fN3]at c
    subst c
    rcases e with⟨rfl,hk⟩|rfl
    grind
    exact .inr rfl
   |succ j=>
    rw[List.getElem?_cons_succ]at c ⊢
    rw[show o+(j+1)=o+1+j by omega]
    exact d j a' c
  cases hk:gZ ks o with
  |none=>rw[hk]at h;exact step x (.inl ⟨rfl,hk⟩) h
  |some t=>rw[hk]at h;exact step _ (.inr rfl) h
def Fl {K:Unit->aB R} {r:R} (h:cM (Pn i j) K=some r):i=j/\K ()=some r:=by
 rw[cF,fC3]at h;obtain⟨u,h1,h2⟩:=h;unfold Pn at h1;split at h1
 grind
 cases h1
def uT:∀{hs} {o},Fe hs o=none->∀i x,(o,i,x)∉hs
 |[],_,_,_,_=>fun h=>by cases h
 |(j,i',x)::r,o,h,i,y=>by
  unfold Fe at h
  rw[bJ]at h
  by_cases e:j=o
  grind
  rw[gJ3 e]at h
  intro a
  rcases fT3.1 a with a|a
  grind
  exact uT h i y a
def uU:∀{hs} {o i} {x},Fe hs o=some (i,x)->(o,i,x)∈hs/\(∀q,q∈aF1 hs o->q∈hs)/\∀b c y,¬(b=i/\c=o)->(c,b,y)∈hs->(c,b,y)∈aF1 hs o
 |[],_,_,_,h=>by cases h
 |(j,i1,y)::r,o,i,x,h=>by
  unfold Fe at h
  rw[bJ]at h
  by_cases e:j=o
  rw[gP3 e]at h
  cases h
  subst e
  simp only[aF1,bJ,hB3,fS3]
  refine⟨List.mem_cons_self ..,fun q d=>gZ3 _ d,fun b c y hn a=>?_⟩
  rcases fT3.1 a with a|a
  grind
  exact a
  rw[gJ3 e]at h
  obtain⟨h1,h2,f⟩:=uU h
  simp only[aF1,bJ,gJ3 e,fZ3]
  refine⟨gZ3 _ h1,fun q d=>?_,fun b c y hn a=>?_⟩
  grind
  grind
def Fm {hs:aA (Nat×Nat×PV)} {K:aA (Nat×Nat×PV)->aB R} {r:R} (h:Wp hs o i K=some r):∃a,K a=some r/\∀b c x,¬(b=i/\c=o)->((c,b,x)∈a↔(c,b,x)∈hs):=by
 unfold Wp at h;cases hc:Fe hs o with
 |none=>rw[hc]at h;exact⟨hs,h,fun _ _ _ _=>Iff.rfl⟩
 |some p=>
  obtain⟨d,x⟩:=p;rw[hc]at h;simp only at h;obtain⟨e,h1⟩:=Fl h;subst e;exact⟨_,h1,fun b c y hn=>⟨(uU hc).2.1 _,(uU hc).2.2 b c y hn⟩⟩
def Pz (C:Cx) (ks:aA (Nat×TD)) (hs:aA (Nat×Nat×PV)) (i j:Nat) (a:PV) (b:AV):Prop:=match gZ ks j with
 |none=>RC true a b
 |some (.nd _ e _)=>a=.is e []/\((Ch hs i j/\∀x,(j,i,x)∈hs->RV C x b)\/(¬Ch hs i j/\b=.v (.slice none 0 0)))
def rZ {ks} {i}:∀(ys:aA PV) (o:Nat) (hs:aA (Nat×Nat×PV)) (zs:aA AV) (K:aA PV->aA (Nat×Nat×PV)->aB R) (r:R),xU ks i o ys hs K=some r->LR (RV C) ys zs->
  ∃l c,K l c=some r/\l.length=ys.length/\(∀g f x,(g≠i\/f<o\/o+ys.length<=f)->((f,g,x)∈c↔(f,g,x)∈hs))/\∀(j:Nat) (a:PV) (b:AV),l[j]? =some a->zs[j]? =some b->Pz C ks c i (o+j) a b
 |[],o,hs,zs,K,r,h,hl=>⟨[],hs,h,rfl,fun _ _ _ _=>Iff.rfl,fun j a b h=>by simp at h⟩
 |y::ys,o,hs,zs,K,r,h,hl=>by
  obtain⟨z,n,rfl,hv,p⟩:=hl.inv_cons
  unfold xU at h
  cases hk:gZ ks o with
  |none=>
   rw[hk]at h
   simp only at h
   cases hp:iO y with
   |false=>rw[hp]at h;exact aD h
   |true=>
    rw[hp,fS3]at h
    obtain⟨l,c,h1,h2,q,s⟩:=rZ ys (o+1) hs n _ r h p
    refine⟨y::l,c,h1,by simp[h2],fun g f x hc=>q g f x (by simp only[gR3]at hc;omega),fun j a b m hb=>?_⟩
    cases j with
    |zero=>
     simp only[hF3,fN3]at m hb
     subst m hb
     unfold Pz
     rw[hP3,hk]
     exact hv.plain hp
    |succ j=>
     rw[List.getElem?_cons_succ]at m hb
     rw[show o+(j+1)=o+1+j by omega]
     exact s j a b m hb
  |some t=>
   obtain⟨ty,e,u⟩:=t
   rw[hk]at h
   simp only at h
   have key:∀(d:aA (Nat×Nat×PV)),(∀g f x,¬(g=i/\f=o)->((f,g,x)∈d↔(f,g,x)∈hs))->((Ch d i o/\∀x,(o,i,x)∈d->RV C x z)\/(¬Ch d i o/\z=.v (.slice none 0 0)))->xU ks i (o+1) ys d (fun l hs=>K (.is e []::l) hs)=some r->∃l c,K l c=some r/\l.length=(y::ys).length/\(∀g f x,(g≠i\/f<o\/o+(y::ys).length<=f)->((f,g,x)∈c↔(f,g,x)∈hs))/\∀(j:Nat) (a:PV) (b:AV),l[j]? =some a->(z::n)[j]? =some b->Pz C ks c i (o+j) a b:=fun d q1 q2 h=>by
    obtain⟨l,c,h1,h2,q,s⟩:=rZ ys (o+1) d n _ r h p
    refine⟨_,c,h1,by simp[h2],fun g f x hc=>?_,fun j a b m hb=>?_⟩
    grind
    cases j with
    |zero=>
     simp only[hF3,fN3]at m hb
     subst m hb
     unfold Pz
     rw[hP3,hk]
     have hi:=fun x=>q i o x (.inr (.inl (by omega)))
     refine⟨rfl,?_⟩
     rcases q2 with⟨⟨x,a1⟩,a2⟩|⟨a1,a2⟩
     exact .inl ⟨⟨x,(hi x).2 a1⟩,fun x k=>a2 x ((hi x).1 k)⟩
     exact .inr ⟨fun⟨x,k⟩=>a1 ⟨x,(hi x).1 k⟩,a2⟩
    |succ j=>
     rw[List.getElem?_cons_succ]at m hb
     rw[show o+(j+1)=o+1+j by omega]
     exact s j a b m hb
   split at h
   rename_i w
   obtain⟨d,h,q1⟩:=Fm h
   split at h
   rename_i hc
   refine key _ (fun g f x hn=>?_) (.inl ⟨⟨_,List.mem_cons_self ..⟩,fun x k=>?_⟩) h
   grind
   rcases fT3.1 k with k|k
   cases k;exact hv
   exact absurd k (uT hc i x)
   exact aD h
   obtain⟨d,h,q1⟩:=Fm h
   split at h
   rename_i hc
   exact key _ q1 (.inr ⟨fun⟨x,k⟩=>uT hc i x k,iX hv⟩) h
   exact aD h
   exact aD h
def Ul (hr:RR rows (els.take rows.length)) (hi:rows[i]? =some row):∃a,els[i]? =some a/\LR (RC true) row a:=by
 obtain⟨a,h1,h2⟩:=hr.get hi;have b:i<rows.length:=(fE3.1 hi).1;rw[gA3,fJ3 b]at h1;exact⟨a,h1,h2⟩
def Fo (C:Cx) (n:Nat) (h:bA) (s:Hp) (k:iV) (ys:aA AV) (K:PV->bA->Nat->aB R) (r:R):Prop:=∃v y,(∀lim nS,doOp (Sim.look s.h) lim nS k ys=some {v:=y})/\RV C v y/\K v h n=some r
def tW {k} {v} {y} (hd:∀lim nS,doOp (Sim.look s.h) lim nS k ys=some {v:=y}) (hv:RV C v y) (hK:K v h n=some r):Fo C n h s k ys K r:=⟨v,y,hd,hv,hK⟩
def Fo.step (d:dR C n h lim s) {k} (h1:Fo C n h s k ys K r):iG C n h lim s k ys K r:=by
 obtain⟨v,y,a,b,c⟩:=h1;exact bW d (a _ _) b c
def Fp (u:dR C n h lim s) (J:LR (RV C) xs ys) (hk:fZ .loadS xs h n K=some r):Fo C n h s .loadS ys K r:=by
 rcases xs with _|⟨x,_|⟨x2,t⟩⟩
 exact aD hk;obtain⟨y,_,rfl,h1,h2⟩:=J.inv_cons;rw[h2.inv_nil];cases x with
 |ref k o=>
  have hk:hK h k (fun ob=>match ob with
   |.box cs=>kK o cs fun cs=>match cs with
    |c::_=>K c h n
    |[]=>none
   |_=>none)=some r:=hk
  rw[iC,fC3]at hk;obtain⟨ob,hg,hk⟩:=hk;cases ob with
  |box cs=>
   obtain⟨L,j⟩:=gA _ _ _ _ hk;obtain⟨id,ver,e,len,m,rfl⟩:=mG h1;obtain⟨_,ty,esz,row,p,hl⟩:=Af u hg m;cases hd:cs.drop o with
   |nil=>rw[hd]at j;exact aD j
   |cons c t=>
    rw[hd]at j;obtain⟨y,hy,hv⟩:=hl.get (Ae hd);exact tW (fun lim nS=>by simp[doOp,p,hy]) hv j
  |_=>exact aD hk
 |ip cs=>
  obtain⟨cs',rfl,hl⟩:=Bt h1;cases cs with
  |nil=>exact aD hk
  |cons c t=>
   obtain⟨y,E,rfl,hv,_⟩:=hl.inv_cons;exact tW (fun _ _=>rfl) (.cl hv) hk
 |el k i o=>
  have hk:hK h k (fun ob=>match ob with
   |.lst _ _ _ rows=>cM (lR rows i o) fun c=>K c h n
   |.fl fs=>bif Nat.beq o 0 then(kK i fs fun fs=>match fs with
    |f::_=>K f h n
    |[]=>none)else none
   |.tr t rows _=>match gZ t.ks o with
    |some _=>cM (lR rows i o) fun _=>K .undef h n
    |none=>cM (lR rows i o) fun c=>K c h n
   |_=>none)=some r:=hk
  rw[iC,fC3]at hk;obtain⟨ob,hg,hk⟩:=hk;cases ob with
  |lst ty e2 g rows=>
   simp only[cF,fC3,lR]at hk;obtain⟨c,⟨row,hi,w⟩,hk⟩:=hk;obtain⟨id,ver,e,len,m,rfl⟩:=tT h1;obtain⟨_,rfl,_,els,p,hr,_⟩:=lS u hg m;obtain⟨a,b,hl⟩:=Ul hr hi;obtain⟨y,hy,hv⟩:=hl.get w;exact tW (fun lim nS=>by simp[doOp,p,b,hy]) (.cl hv.weak) hk
  |fl fs=>
   simp only[bJ]at hk;by_cases G:o=0;subst G;rw[gP3 rfl,fS3]at hk;obtain⟨L,j⟩:=gA _ _ _ _ hk;obtain⟨id,ver,e,len,m,rfl⟩:=tT h1;obtain⟨_,_,_,ty,els,p,hlen,hr⟩:=fL1 u hg m;cases hd:fs.drop i with
   |nil=>rw[hd]at j;exact aD j
   |cons c t=>
    rw[hd]at j;have hi:=Ae hd;have D:=(fE3.1 hi).1;obtain⟨y,E,l,hv,hn⟩:=(hr i c (els[i]'(by omega)) hi (by simp)).inv_cons;rw[hn.inv_nil]at l;have z:els[i]? =some [y]:=by rw[<-l];simp
    exact tW (fun lim nS=>by simp[doOp,p,z]) hv j
   grind
  |tr t rows hs=>
   obtain⟨ty,e2,ks⟩:=t
   have F:∀{v:PV->PV},(∀(d id:Nat) (c:PV) (y:AV),TC C (Sim.look s.h) lim s.n d id ks hs i o c y->RV C (v c) y)->cM (lR rows i o) (fun c=>K (v c) h n)=some r->Fo C n h s .loadS [y] K r:=fun{v} hv q=>by
    simp only[cF,fC3,lR]at q;obtain⟨c,⟨row,hi,w⟩,A⟩:=q;obtain⟨id,ver,e,len,m,rfl⟩:=tT h1;obtain⟨_,_,rfl,_,_,els,d,p,B,hr⟩:=nA u hg m;obtain⟨a,b⟩:=Ah B hi;obtain⟨q1,q2⟩:=hr i row a hi b;have D:=(fE3.1 w).1;have hy:a[o]? =some (a[o]'(by omega)):=by simp
    exact tW (fun lim nS=>by simp[doOp,p,b,hy]) (hv d id c _ (q2 o c _ w hy)) A
   have hk:(match gZ ks o with
    |some _=>cM (lR rows i o) fun _=>K .undef h n
    |none=>cM (lR rows i o) fun c=>K c h n)=some r:=hk
   cases hkd:gZ ks o with
   |none=>
    rw[hkd]at hk;exact F (v:=fun c=>c) (fun d id c y H=>.cl ((TC.none hkd).1 H).weak) hk
   |some t=>
    rw[hkd]at hk;exact F (v:=fun _=>.undef) (fun _ _ _ _ _=>.undef) hk
  |_=>exact aD hk
 |_=>exact aD hk
 exact aD hk
def Fq (D:dR C n h lim s) (N:LR (RV C) xs ys) (hk:fZ (.loadA m) xs h n K=some r):Fo C n h s (.loadA m) ys K r:=by
 rcases xs with _|⟨x,_|⟨x2,t⟩⟩
 exact aD hk;obtain⟨y,_,rfl,h1,h2⟩:=N.inv_cons;rw[h2.inv_nil];cases x with
 |ref k o=>
  have hk:hK h k (fun ob=>match ob with
   |.box cs=>kK o cs fun cs=>qW m cs fun cs=>K (.agg cs) h n
   |_=>none)=some r:=hk
  rw[iC,fC3]at hk;obtain⟨ob,hg,hk⟩:=hk;cases ob with
  |box cs=>
   obtain⟨P,O⟩:=gA _ _ _ _ hk;obtain⟨B,u⟩:=pH _ _ _ _ O;obtain⟨id,ver,e,len,z,rfl⟩:=mG h1;obtain⟨_,ty,esz,row,A,hl⟩:=Af D hg z;have hlen:=hl.1;simp only[List.length_drop]at B;have f:=(hl.drop o).take m;exact tW (fun lim nS=>by simp[doOp,A];omega) (.agg f.1 f.2) u
  |_=>exact aD hk
 |ip cs=>
  obtain⟨cs',rfl,hl⟩:=Bt h1;have hk:qW m cs (fun cs=>K (.agg cs) h n)=some r:=hk;obtain⟨B,u⟩:=pH _ _ _ _ hk;have f:=hl.take m;refine tW (fun lim nS=>?_) (.cl (.agg f.1 f.2)) u;simp only[doOp];rw[fJ3 (by rw[<-hl.1];exact B)]
 |zp cs=>
  have hk:qW m cs (fun cs=>K (.agg cs) h n)=some r:=hk;obtain⟨B,u⟩:=pH _ _ _ _ hk;cases h1 with
  |cl h1=>cases h1
  |zp h1=>
   rcases h1 with⟨cs',rfl,hl⟩|⟨id,ver,i,ty,e,els,row,rfl,hz,hi,hl⟩
   have f:=hl.take m;refine tW (fun lim nS=>?_) (.cl (.agg f.1 fun j x y a b=>(f.2 j x y a b).weak)) u;simp only[doOp];rw[fJ3 (by rw[<-hl.1];exact B)];have f:=hl.take m;refine tW (fun lim nS=>?_) (.cl (.agg f.1 fun j x y a b=>(f.2 j x y a b).weak)) u;have hlen:=hl.1;simp[doOp,(D.hr.zr id _ hz).1,hi];omega
 |el k i o=>
  have hk:hK h k (fun ob=>match ob with
   |.lst _ _ _ rows=>cM (mV rows i o m) fun cs=>K (.agg cs) h n
   |.tr t rows _=>cM (mV rows i o m) fun cs=>xT t.ks o cs fun cs=>K (.agg cs) h n
   |_=>none)=some r:=hk
  rw[iC,fC3]at hk;obtain⟨ob,hg,hk⟩:=hk;cases ob with
  |lst ty e2 g rows=>
   simp only[cF,fC3,mV]at hk;obtain⟨c,⟨row,hi,q⟩,hk⟩:=hk;split at q;rename_i J;cases q;obtain⟨id,ver,e,len,z,rfl⟩:=tT h1;obtain⟨_,rfl,_,els,A,hr,_⟩:=lS D hg z;obtain⟨l,p,hl⟩:=Ul hr hi;have f:=(hl.drop o).take m;have hlen:=hl.1;exact tW (fun lim nS=>by simp[doOp,A,p];omega) (.cl (.agg f.1 fun j x y a b=>(f.2 j x y a b).weak)) hk;cases q
  |tr t rows hs=>
   obtain⟨ty,e2,ks⟩:=t;simp only[TD.ks,cF,fC3,mV]at hk;obtain⟨c,⟨row,hi,q⟩,hk⟩:=hk;split at q;rename_i J;cases q;obtain⟨cs',hk,F,G⟩:=wD _ _ _ _ hk;obtain⟨id,ver,e,len,z,rfl⟩:=tT h1;obtain⟨_,_,rfl,_,_,els,d,A,H,hr⟩:=nA D hg z;obtain⟨l,p⟩:=Ah H hi;obtain⟨q1,q2⟩:=hr i row l hi p;refine tW (v:=.agg cs') (y:=.agg ((l.drop o).take m)) (fun lim nS=>by simp[doOp,A,p];omega) (.agg (by simp at F ⊢;omega) fun j a b M hb=>?_) hk;rcases G j a M with⟨a0,w,L,rfl⟩|rfl;rw[gA3]at w hb;split at w;rename_i E;rw[fJ3 E,gM3]at hb;rw[gM3]at w;exact .cl ((TC.none L).1 (q2 (o+j) a b w hb)).weak;cases w;exact .undef;cases q
  |_=>exact aD hk
 |_=>exact aD hk
 exact aD hk
def fN1 (a:dR C n h lim s) (b:LR (RV C) xs ys) (hk:fZ .loadS xs h n K=some r):iG C n h lim s .loadS ys K r:=(Fp a b hk).step a
def fO1 {m} (a:dR C n h lim s) (b:LR (RV C) xs ys) (hk:fZ (.loadA m) xs h n K=some r):iG C n h lim s (.loadA m) ys K r:=(Fq a b hk).step a
def fP1 (J:dR C n h lim s) (hx:LR (RV C) xs ys) (hk:fZ (.store m) xs h n K=some r):iG C n h lim s (.store m) ys K r:=by
 rcases xs with _|⟨p,_|⟨x,_|⟨x2,t⟩⟩⟩
 exact aD hk;exact aD hk;obtain⟨y1,_,rfl,h1,h2⟩:=hx.inv_cons;obtain⟨y2,_,rfl,h3,h4⟩:=h2.inv_cons;rw[h4.inv_nil];cases p with
 |ref k o=>
  have hk:hK h k (fun ob=>match ob with
   |.box cs=>nF x fun ys=>bif Nat.beq ys.length m then vD cs o ys fun cs=>iF h k (.box cs) fun h=>K .undef h n else none
   |_=>none)=some r:=hk
  rw[iC,fC3]at hk;obtain⟨ob,hg,hk⟩:=hk;cases ob with
  |box cs=>
   simp only[mL,fC3]at hk;obtain⟨zs,G,hk⟩:=hk;obtain⟨q,F,y⟩:=pI h3 G;rw[bJ]at hk;by_cases W:zs.length=m;rw[gP3 W,fS3]at hk;obtain⟨k1,k2⟩:=lK _ _ _ _ _ hk;have k3:=eD _ _ _ _ _ k2;obtain⟨id,ver,e,len,A,rfl⟩:=mG h1;obtain⟨u,ty,esz,row,O,hl⟩:=Af J hg A;have E:=(J.hr.lt (by rw[hg];simp) A).2;obtain⟨m1,m2⟩:=tS J (po':=.box (Sim.setL cs o zs)) (ao:=.arr true ty esz ver [Sim.setL row o q]) hg A ⟨u,E,ty,esz,_,by rw[Sim.look_upd];simp[O],hl.setL y o⟩ rfl;have hlen:=hl.1;have U:=y.1;refine⟨_,_,_,_,{v:=.undef,up:=some (id,.arr true ty esz ver [Sim.setL row o q])},k3,?_,.undef,m1,.refl _,fI3 _,m2,fun he=>by cases he⟩;simp only[doOp,F,O];rw[fJ3 ⟨by trivial,u,by omega⟩];simp only[hF3];rw[fJ3 (by omega)];rfl;rw[gJ3 W]at hk;exact aD hk
  |_=>exact aD hk
 |el k i o=>
  have hk:hK h k (fun ob=>match ob with
   |.lst ty e g rows=>nF x fun ys=>bif Nat.beq ys.length m&&ys.all iO then cM (pD rows i o ys) fun rows=>iF h k (.lst ty e g rows) fun h=>K .undef h n else none
   |.tr t rows hs=>nF x fun ys=>bif Nat.beq ys.length m then xU t.ks i o ys hs fun ys hs=>cM (pD rows i o ys) fun rows=>iF h k (.tr t rows hs) fun h=>K .undef h n else none
   |_=>none)=some r:=hk
  rw[iC,fC3]at hk;obtain⟨ob,hg,hk⟩:=hk;cases ob with
  |lst ty e2 g rows=>
   simp only[mL,fC3]at hk;obtain⟨zs,G,hk⟩:=hk;obtain⟨q,F,y⟩:=pI h3 G;by_cases hc:(Nat.beq zs.length m&&zs.all iO)=true;rw[hc,fS3,cF,fC3]at hk;simp only[fF3,bJ,fO3]at hc;obtain⟨V,c,hk⟩:=hk;have k3:=eD _ _ _ _ _ hk;unfold pD at c;split at c;rename_i row hi;split at c;rename_i b8;cases c;obtain⟨id,ver,e,len,A,rfl⟩:=tT h1;obtain⟨u,rfl,hlen,els,O,hr,z,b5⟩:=lS J hg A;have E:=(J.hr.lt (by rw[hg];simp) A).2;obtain⟨f,D,hl⟩:=Ul hr hi;have P:i<rows.length:=(fE3.1 hi).1;have d2:=y.plain hc.2
   obtain⟨m1,m2⟩:=tS J (po':=.lst ty e g (rows.set i (Sim.setL row o zs))) (ao:=.arr false (Ct ty) e ver (els.set i (Sim.setL f o q))) hg A
    ⟨u,E,rfl,by simpa using hlen,els.set i (Sim.setL f o q),by rw[Sim.look_upd];simp[O],by
     rw[hU3,List.take_set];exact hr.set (hl.setL d2 o) i,LS.set z hi,by simpa using b5⟩ rfl
   have b9:=hl.1;have U:=y.1;refine⟨_,_,_,_,{v:=.undef,up:=some (id,.arr false (Ct ty) e ver (els.set i (Sim.setL f o q)))},k3,?_,.undef,m1,.refl _,fI3 _,m2,fun he=>by cases he⟩;simp only[doOp,F,O];rw[fJ3 ⟨by trivial,u,by omega⟩,D];simp only;rw[fJ3 (by omega)];cases c;cases c;simp only[iX3]at hc;rw[hc]at hk;exact aD hk
  |tr t rows hs=>
   obtain⟨ty,e2,ks⟩:=t;simp only[TD.ks,mL,fC3]at hk;obtain⟨zs,G,hk⟩:=hk;obtain⟨q,F,y⟩:=pI h3 G;rw[bJ]at hk;by_cases W:zs.length=m;rw[gP3 W,fS3]at hk;obtain⟨l,Y,hk,d4,b6,b7⟩:=rZ _ _ _ _ _ _ hk y;rw[cF,fC3]at hk;obtain⟨V,c,hk⟩:=hk;have k3:=eD _ _ _ _ _ hk;unfold pD at c;split at c;rename_i row hi;split at c;rename_i b8;cases c;obtain⟨id,ver,e,len,A,rfl⟩:=tT h1;obtain⟨u,E,rfl,hlen,b4,els,d,O,z,hr⟩:=nA J hg A;obtain⟨f,D⟩:=Ah z hi;obtain⟨q1,q2⟩:=hr i row f hi D;have d0:=y.1;have b0:=J.hr.wn k id ver e len (by rw[hg];simp) A;have Z:∀H,H≠id->Sim.look (upd s.h id (.arr false ty e ver (els.set i (Sim.setL f o q)))) H=Sim.look s.h H:=fun H h=>by rw[Sim.look_upd];simp[h]
   have hW:∀H sl,C.w H=some sl->¬False->C.w H=some sl/\Sim.look (upd s.h id (.arr false ty e ver (els.set i (Sim.setL f o q)))) H=Sim.look s.h H:=fun H sl hw _=>⟨hw,Z H fun h=>by rw[h,b0]at hw;cases hw⟩
   obtain⟨m1,m2⟩:=tS J (po':=.tr (.nd ty e ks) (rows.set i (Sim.setL row o l)) Y) (ao:=.arr false ty e ver (els.set i (Sim.setL f o q))) hg A
    ⟨u,E,rfl,by simpa using hlen,b4,els.set i (Sim.setL f o q),d+1,by rw[Sim.look_upd];simp[O],LS.set z hi,fun R r1 d3 S hb=>by
     have old:∀{r2 L},rows[R]? =some r2->els[R]? =some L->∀j a b,r2[j]? =some a->L[j]? =some b->(R≠i\/j<o\/o+zs.length<=j)->TC C (Sim.look (upd s.h id (.arr false ty e ver (els.set i (Sim.setL f o q))))) lim s.n (d+1) id ks Y R j a b:=fun{r2 L} g1 g2 j a b M N g5=>by
      have:=((hr R r2 L g1 g2).2 j a b M N).mono (fI3 _) (.refl C) (B:=fun _=>False) (fun _ h=>h.elim) hW (fun h=>h);unfold TC at this ⊢;have hi:=fun x=>b6 R j x g5;cases hkd:gZ ks j with
      |none=>rw[hkd]at this;exact this
      |some t=>
       rw[hkd]at this;simp only at this ⊢;rcases this with⟨⟨x,a1⟩,a2⟩|⟨a1,a2⟩
       exact .inl ⟨⟨x,(hi x).2 a1⟩,fun x hx=>a2 x ((hi x).1 hx)⟩;exact .inr ⟨fun⟨x,hx⟩=>a1 ⟨x,(hi x).1 hx⟩,a2.up1⟩
     rw[gE3]at S hb;by_cases T:i=R;subst T;rw[fJ3 rfl]at S hb;have P:=(fE3.1 hi).1;rw[fJ3 P]at S;rw[fJ3 (by omega)]at hb;cases S;cases hb;refine⟨by rw[nB,nB];exact q1,fun j a b M N=>?_⟩;by_cases X:o<=j/\j<o+zs.length;rw[rY (by omega) X.1 (by omega)]at M;rw[rY (by omega) X.1 (by omega)]at N;have:=b7 (j-o) a b M N;rw[show o+(j-o)=j by omega]at this;unfold Pz at this;unfold TC;cases hkd:gZ ks j with
     |none=>rw[hkd]at this;exact this
     |some t=>
      obtain⟨d6,e3,d5⟩:=t;rw[hkd]at this;simp only at this ⊢;obtain⟨rfl,this⟩:=this;rcases this with this|⟨a1,a2⟩
      exact .inl this;exact .inr ⟨a1,[],rfl,.inl ⟨rfl,a2⟩⟩
     rw[lC (by omega)]at M;rw[lC (by omega)]at N;exact old hi D j a b M N (by omega);rw[fM3 T]at S hb;exact⟨(hr R r1 d3 S hb).1,fun j a b M N=>old S hb j a b M N (.inl fun h=>T h.symm)⟩⟩ rfl
   refine⟨_,_,_,_,{v:=.undef,up:=some (id,.arr false ty e ver (els.set i (Sim.setL f o q)))},k3,?_,.undef,m1,.refl _,fI3 _,m2,fun he=>by cases he⟩;simp only[doOp,F,O];rw[fJ3 ⟨by trivial,u,by omega⟩,D];simp only;rw[fJ3 (by omega)];cases c;cases c;rw[gJ3 W]at hk;exact aD hk
  |_=>exact aD hk
 |_=>exact aD hk
 exact aD hk
def xA1 {off} (b:dR C n h lim s) (d:LR (RV C) xs ys) (hk:fZ (.fad off) xs h n K=some r):iG C n h lim s (.fad off) ys K r:=by
 rcases xs with _|⟨x,_|⟨x2,t⟩⟩
 exact aD hk;obtain⟨y,_,rfl,h1,h2⟩:=d.inv_cons;rw[h2.inv_nil];cases x with
 |ref k o=>
  obtain⟨id,ver,e,len,a,rfl⟩:=mG h1;exact bW b rfl (.ref a) hk
 |ip cs=>
  have hk:kK off cs (fun cs=>K (.ip cs) h n)=some r:=hk;obtain⟨g,f⟩:=gA _ _ _ _ hk;obtain⟨cs',rfl,hl⟩:=Bt h1;have c:=hl.drop off;exact bW b rfl (.cl (.ip c.1 c.2)) f
 |el k i o=>
  obtain⟨id,ver,e,len,a,rfl⟩:=tT h1;exact bW b rfl (.el a) hk
 |_=>exact aD hk
 exact aD hk
end
end Go.P
namespace Go.P
open Go.Sim (AV AO Hp mQ upd St IC IX Ex iV CK Wf Out doOp)
variable {lim n:Nat}
section
variable {R:Type} {C:Cx} {h:bA} {s:Hp} {k:iV} {xs:List PV} {ys:List AV} {K:PV->bA->Nat->Option R} {r:R}
def xB1 {e} (f:dR C n h lim s) (E:LR (RV C) xs ys) (hk:fZ (.iad e) xs h n K=some r):iG C n h lim s (.iad e) ys K r:=by
 rcases xs with _|⟨x,_|⟨i,_|⟨x2,t⟩⟩⟩
 exact aD hk;exact aD hk;obtain⟨F,_,rfl,h1,h2⟩:=E.inv_cons;obtain⟨G,_,rfl,B,D⟩:=h2.inv_cons;rw[D.inv_nil];cases i with
 |v iv=>
  cases iv with
  |int kk i=>
   rw[iX B];cases x with
   |is e' rows=>
    have hk:(bif Nat.beq e' e then cM (qL rows i) (fun row=>K (.ip row) h n)else none)=some r:=hk;rw[bJ]at hk;by_cases o:e'=e;subst o;simp only[hB3,fS3,cF,fC3,qL]at hk;obtain⟨row,c,hk⟩:=hk;split at c;rename_i h0;rcases Wx h1 with⟨rows',rfl,hr⟩|⟨rfl,_⟩
    obtain⟨z,u,hl⟩:=hr.get c;exact bW f (by simp[doOp,Sim.intOf,h0,u]) (.cl (.ip hl.1 fun j x y a b=>(hl.2 j x y a b).weak)) hk;simp at c;cases c
    grind
   |zs dp e' rows=>
    replace hk:(bif Nat.beq e' e&&Nat.ble dp 1 then cM (qL rows i) (fun row=>K (.zp row) h n)else none)=some r:=hk;cases hb:(Nat.beq e' e&&Nat.ble dp 1)with
    |false=>rw[hb]at hk;exact aD hk
    |true=>
     simp only[hb,fS3,cF,fC3,qL]at hk;simp only[fF3,bJ,fO3]at hb;obtain⟨rfl,w⟩:=hb;have w:=fK3 w;obtain⟨row,c,hk⟩:=hk;split at c;rename_i h0;rcases Fk (yA h1)with(⟨rows',rfl,hr⟩|⟨rfl,_⟩)|⟨d',id,ver,ty,els,rfl,rfl,hz,hl,hr⟩
     obtain⟨z,u,hl⟩:=hr.get c;exact bW f (by simp[doOp,Sim.intOf,h0,u]) (.zp (.inl ⟨_,rfl,hl⟩)) hk;simp at c;have hd:d'=0:=by omega
     subst hd;have l:=(fE3.1 c).1;have he:els[i.toNat]? =some els[i.toNat]:=by simp
     refine bW f (v:=.zp row) (y:=.ptr id ver i.toNat 0) ?_ (.zp (.inr ⟨id,ver,i.toNat,ty,_,els,els[i.toNat],rfl,hz,he,hr.2 i.toNat row _ c (by rw[gA3,fJ3 l];exact he)⟩)) hk;simp only[doOp,Sim.intOf];rw[fJ3 ⟨by trivial,h0,by omega⟩,hD3];cases c
   |own k=>
    have hk:hK h k (fun ob=>match ob with
     |.lst _ e' _ rows=>bif Nat.beq e' e then cM (qX rows.length i) (fun i=>K (.el k i 0) h n)else none
     |.fl fs=>bif Nat.beq e 1 then mJ1 i (fun i=>bif Nat.blt i fs.length then K (.el k i 0) h n else none)else none
     |.tr t rows _=>match t with|.nd _ e' _=>bif Nat.beq e' e then cM (qX rows.length i) (fun i=>K (.el k i 0) h n)else none
     |_=>none)=some r:=hk
    rw[iC,fC3]at hk;obtain⟨ob,hg,hk⟩:=hk;cases ob with
    |lst ty e2 g rows=>
     simp only[bJ]at hk;by_cases o:e2=e;subst o;simp only[hB3,fS3,cF,fC3,qX]at hk;obtain⟨m,q,p⟩:=hk;split at q;rename_i h0;cases q;rcases lB h1 with⟨id,ver,A,len,d,rfl⟩|⟨d,_⟩
     obtain⟨_,rfl,hlen,_⟩:=lS f hg d;refine bW (v:=.el k i.toNat 0) (y:=.ptr id ver i.toNat 0) f ?_ (.el d) p;simp only[doOp,Sim.intOf];rw[fJ3 ⟨by trivial,h0.1,by omega⟩,hD3];have:=mZ f hg d;subst this;simp at h0;omega;cases q
     grind
    |fl fs=>
     simp only[bJ]at hk;by_cases o:e=1;subst o;rw[gP3 rfl,fS3]at hk;cases i with
     |negSucc m=>exact aD hk
     |ofNat m=>
      cases l:Nat.blt m fs.length with
      |false=>simp only[mJ1,l,fZ3]at hk;exact aD hk
      |true=>
       simp only[mJ1,l,fS3]at hk;rw[hR3]at l;rcases lB h1 with⟨id,ver,A,len,d,rfl⟩|⟨d,_⟩
       obtain⟨_,rfl,hlen,_⟩:=fL1 f hg d;refine bW (v:=.el k m 0) (y:=.ptr id ver m 0) f ?_ (.el d) hk;simp only[doOp,Sim.intOf];rw[fJ3 ⟨by trivial,by simp,by simp;omega⟩,hD3];rfl;exact(fM1 f hg d).elim
     grind
    |tr t rows hs=>
     obtain⟨ty,e2,ks⟩:=t;simp only[bJ]at hk;by_cases o:e2=e;subst o;simp only[hB3,fS3,cF,fC3,qX]at hk;obtain⟨m,q,p⟩:=hk;split at q;rename_i h0;cases q;rcases lB h1 with⟨id,ver,A,len,d,rfl⟩|⟨d,_⟩
     obtain⟨_,_,rfl,hlen,_⟩:=nA f hg d;refine bW (v:=.el k i.toNat 0) (y:=.ptr id ver i.toNat 0) f ?_ (.el d) p;simp only[doOp,Sim.intOf];rw[fJ3 ⟨by trivial,h0.1,by omega⟩,hD3];have:=(tV f hg d).1;subst this;simp at h0;omega;cases q
     grind
    |_=>exact aD hk
   |_=>exact aD hk
  |_=>exact aD hk
 |_=>exact aD hk
 exact aD hk
def aL1 (e:dR C n h lim s) (f:LR (RV C) xs ys) (hk:fZ .idxStr xs h n K=some r):iG C n h lim s .idxStr ys K r:=by
 rcases xs with _|⟨x,_|⟨i,_|⟨x2,t⟩⟩⟩
 exact aD hk;exact aD hk;obtain⟨j,_,rfl,h1,h2⟩:=f.inv_cons;obtain⟨k,_,rfl,c,d⟩:=h2.inv_cons;rw[d.inv_nil];cases x with
 |v xv=>
  cases xv with
  |string b=>
   cases i with
   |v iv=>
    cases iv with
    |int kk i=>
     rw[iX h1,iX c];have hk:cM (tO b i) (fun b=>K (.v (.int .u8 b)) h n)=some r:=hk;simp only[cF,fC3,tO]at hk;obtain⟨m,a,hk⟩:=hk;split at a;rename_i h0;simp only[fG3]at a;obtain⟨g,hb,rfl⟩:=a;refine bW e ?_ (.cl (.v _)) hk;simp only[doOp,Sim.intOf];rw[fJ3 h0,hb];cases a
    |_=>exact aD hk
   |_=>exact aD hk
  |_=>cases i with
   |v iv=>cases iv<;>exact aD hk
   |_=>exact aD hk
 |_=>cases i with
  |v iv=>cases iv<;>exact aD hk
  |_=>exact aD hk
 exact aD hk
def mP1 {len e} {agg} (b:dR C n h lim s) (j:LR (RV C) xs ys) (hk:fZ (.idxA len e agg) xs h n K=some r):iG C n h lim s (.idxA len e agg) ys K r:=by
 rcases xs with _|⟨x,_|⟨i,_|⟨x2,t⟩⟩⟩
 exact aD hk;exact aD hk;obtain⟨k,_,rfl,h1,h2⟩:=j.inv_cons;obtain⟨l,_,rfl,f,g⟩:=h2.inv_cons;rw[g.inv_nil];cases x with
 |agg cs=>
  obtain⟨cs',rfl,hl⟩:=nI h1;cases i with
  |v iv=>
   cases iv with
   |int kk i=>
    rw[iX f];have hk:(bif agg then cM (tP cs i len e) (fun cs=>K (.agg cs) h n)else cM (xO cs i len e) fun c=>K c h n)=some r:=hk;cases agg with
    |true=>
     simp only[fS3,cF,fC3,tP]at hk;obtain⟨q,a,hk⟩:=hk;split at a;rename_i h0;cases a;have d:=(hl.drop (i.toNat*e)).take e;refine bW b ?_ (.agg d.1 d.2) hk;simp only[doOp,Sim.intOf];rw[fJ3 ⟨h0.1,h0.2.1⟩];rfl;cases a
    |false=>
     simp only[fZ3,cF,fC3,xO]at hk;obtain⟨q,a,hk⟩:=hk;split at a;rename_i h0;obtain⟨y,hy,hv⟩:=hl.get a;refine bW b ?_ hv hk;simp only[doOp,Sim.intOf];rw[fJ3 h0];simp[hy];cases a
   |_=>exact aD hk
  |_=>exact aD hk
 |_=>cases i with
  |v iv=>cases iv<;>exact aD hk
  |_=>exact aD hk
 exact aD hk
def aM1 {op:BinOp} {x y:PV} {K:PV->aB R} {r:R} (hk:wR1 op x y K=some r):∃a b c,x=.v a/\y=.v b/\Sim.binS op a b=some c/\K (.v c)=some r:=by
 cases x with
 |v a=>
  cases y with
  |v b=>
   cases a with
   |int k a=>
    cases b with
    |int k' b=>
     have key:∀{z} {w},(op≠.shl/\op≠.shr)->(wR1 op (.v (.int k a)) (.v (.int k' b)) K=bif kEq k k' then z else none)->(Sim.binS op (.int k a) (.int k' b)=if k=k' then w else none)->(z=some r->∃c,w=some c/\K (.v c)=some r)->∃a' b' c,PV.v (.int k a)=.v a'/\PV.v (.int k' b)=.v b'/\Sim.binS op a' b'=some c/\K (.v c)=some r:=by
      intro z w _ f e2 g;rw[f,Lf]at hk;by_cases e:k=k'
      .rw [gP3 e,fS3]at hk
       obtain⟨c,i,j⟩:=g hk;exact⟨_,_,c,rfl,rfl,by rw[e2,fJ3 e];exact i,j⟩
      .rw [gJ3 e]at hk;exact aD hk
     cases op
     case shl=>
      have hk:cM (if b<0 then none else some (k.wrap (a*2^min b.toNat k.bits))) (fun r=>K (.v (.int k r)))=some r:=hk;simp only[cF,fC3]at hk;obtain⟨q,d,hk⟩:=hk;split at d
      .cases d
      .rename_i h0
       cases d;exact⟨_,_,_,rfl,rfl,by simp only[Sim.binS];rw[fM3 h0],hk⟩
     case shr=>
      have hk:cM (if b<0 then none else some (a.fdiv (2^min b.toNat k.bits))) (fun r=>K (.v (.int k r)))=some r:=hk;simp only[cF,fC3]at hk;obtain⟨q,d,hk⟩:=hk;split at d
      .cases d
      .rename_i h0
       cases d;exact⟨_,_,_,rfl,rfl,by simp only[Sim.binS];rw[fM3 h0],hk⟩
     case add=>exact key (by simp) rfl rfl (fun h=>⟨_,rfl,h⟩)
     case sub=>exact key (by simp) rfl rfl (fun h=>⟨_,rfl,h⟩)
     case mul=>exact key (by simp) rfl rfl (fun h=>⟨_,rfl,h⟩)
     case and=>exact key (by simp) rfl rfl (fun h=>⟨_,rfl,h⟩)
     case or=>exact key (by simp) rfl rfl (fun h=>⟨_,rfl,h⟩)
     case xor=>exact key (by simp) rfl rfl (fun h=>⟨_,rfl,h⟩)
     case andNot=>exact key (by simp) rfl rfl (fun h=>⟨_,rfl,h⟩)
     case eql=>exact key (by simp) rfl rfl (fun h=>⟨_,rfl,h⟩)
     case neq=>exact key (by simp) rfl rfl (fun h=>⟨_,rfl,h⟩)
     case lss=>exact key (by simp) rfl rfl (fun h=>⟨_,rfl,h⟩)
     case leq=>exact key (by simp) rfl rfl (fun h=>⟨_,rfl,h⟩)
     case gtr=>exact key (by simp) rfl rfl (fun h=>⟨_,rfl,h⟩)
     case geq=>exact key (by simp) rfl rfl (fun h=>⟨_,rfl,h⟩)
     case quo=>exact key (z:=cM (if b=0 then none else some (k.wrap (a.tdiv b))) fun r=>K (.v (.int k r))) (by simp) rfl rfl (fun h=>by
      simp only[cF,fC3]at h;obtain⟨q,d,h⟩:=h;split at d
      .cases d
      .rename_i h0;cases d;exact⟨_,by rw[fM3 h0],h⟩)
     case rem=>exact key (z:=cM (if b=0 then none else some (a.tmod b)) fun r=>K (.v (.int k r))) (by simp) rfl rfl (fun h=>by
      simp only[cF,fC3]at h;obtain⟨q,d,h⟩:=h;split at d
      .cases d
      .rename_i h0;cases d;exact⟨_,by rw[fM3 h0],h⟩)
     all_goals (first|exact aD hk|exact key (z:=none) (w:=none) (by simp) rfl rfl (fun h=>aD h))
    |_=>exact aD hk
   |string a=>
    cases b with
    |string b=>
     cases op
     case add=>
      have hk:cM (if a.size+b.size<=2^62 then some (a++b)else none) (fun r=>K (.v (.string r)))=some r:=hk;simp only[cF,fC3]at hk;obtain⟨q,d,hk⟩:=hk;split at d
      .rename_i h0
       cases d;exact⟨_,_,_,rfl,rfl,by simp only[Sim.binS];rw[fJ3 h0],hk⟩
      .cases d
     all_goals first|exact aD hk|exact⟨_,_,_,rfl,rfl,rfl,hk⟩
    |_=>exact aD hk
   |_=>exact aD hk
  |_=>exact aD hk
 |_=>exact aD hk
def xC1 {op} (f:dR C n h lim s) (g:LR (RV C) xs ys) (hk:fZ (.bin op) xs h n K=some r):iG C n h lim s (.bin op) ys K r:=by
 rcases xs with _|⟨x,_|⟨i,_|⟨x2,t⟩⟩⟩
 exact aD hk;exact aD hk;obtain⟨j,_,rfl,h1,h2⟩:=g.inv_cons;obtain⟨k,_,rfl,d,e⟩:=h2.inv_cons;rw[e.inv_nil];obtain⟨a,b,c,rfl,rfl,hb,hk⟩:=aM1 (K:=fun v=>K v h n) hk;rw[iX h1,iX d];exact bW f (by simp[doOp,hb]) (.cl (.v c)) hk;exact aD hk
def xD1 {neg} (e:dR C n h lim s) (f:LR (RV C) xs ys) (hk:fZ (.eqB neg) xs h n K=some r):iG C n h lim s (.eqB neg) ys K r:=by
 rcases xs with _|⟨x,_|⟨i,_|⟨x2,t⟩⟩⟩
 exact aD hk;exact aD hk;obtain⟨g,_,rfl,h1,h2⟩:=f.inv_cons;obtain⟨j,_,rfl,c,d⟩:=h2.inv_cons;rw[d.inv_nil];cases x with
 |v xv=>
  cases xv with
  |bool a=>
   cases i with
   |v iv=>
    cases iv with
    |bool b=>
     rw[iX h1,iX c];exact bW e rfl (.cl (.v _)) hk
    |_=>exact aD hk
   |_=>exact aD hk
  |_=>cases i with
   |v iv=>cases iv<;>exact aD hk
   |_=>exact aD hk
 |_=>cases i with
  |v iv=>cases iv<;>exact aD hk
  |_=>exact aD hk
 exact aD hk
def Jf:∀(ks:aA CK) (as bs:aA PV) (K:Bool->aB R) (r:R) (c d:aA AV),mI1 ks as bs K=some r->LR (RV C) as c->LR (RV C) bs d->
  ∃b,Sim.cellsEq ks c d=some b/\K b=some r/\c.length=ks.length/\d.length=ks.length
 |[],[],[],K,r,c,d,h,ha,hb=>by
  rw[ha.inv_nil,hb.inv_nil]
  exact⟨true,rfl,h,rfl,rfl⟩
 |k::ks,a::as,b::bs,K,r,c,d,h,ha,hb=>by
  obtain⟨y,ys,rfl,h1,h2⟩:=ha.inv_cons
  obtain⟨z,zs,rfl,i,l⟩:=hb.inv_cons
  simp only[mI1]at h
  obtain⟨t,o,f,p,s⟩:=Jf ks as bs _ r ys zs h h2 l
  have fin:∀q:Bool,Sim.cellEq k y z=some q->K (q&&t)=some r->∃b,Sim.cellsEq (k::ks) (y::ys) (z::zs)=some b/\K b=some r/\(y::ys).length=(k::ks).length/\(z::zs).length=(k::ks).length:=by
   intro q m hK;refine⟨q&&t,?_,hK,by simp[p],by simp[s]⟩;simp only[Sim.cellsEq,m];cases q;rfl;simpa using o
  split at f;rename_i j x n g;rw[Lf]at f;by_cases e:j=n;rw[gP3 e,fS3]at f;rw[iX h1,iX i]at fin ⊢;exact fin (x==g) (by simp[Sim.cellEq,e]) f
  grind
  rename_i x g;rw[iX h1,iX i]at fin ⊢;exact fin (x==g) rfl f;rename_i x g;rw[iX h1,iX i]at fin ⊢;exact fin (x==g) rfl f;exact aD f
 |[],_::_,_,_,_,_,_,h,_,_=>aD h
 |[],[],_::_,_,_,_,_,h,_,_=>aD h
 |_::_,[],_,_,_,_,_,h,_,_=>aD h
 |_::_,_::_,[],_,_,_,_,h,_,_=>aD h
def xE1 {neg} {ks} (f:dR C n h lim s) (j:LR (RV C) xs ys) (hk:fZ (.eqA neg ks) xs h n K=some r):iG C n h lim s (.eqA neg ks) ys K r:=by
 rcases xs with _|⟨x,_|⟨i,_|⟨x2,t⟩⟩⟩
 exact aD hk;exact aD hk;obtain⟨p,_,rfl,h1,h2⟩:=j.inv_cons;obtain⟨q,_,rfl,d,e⟩:=h2.inv_cons;rw[e.inv_nil];cases x with
 |agg as=>
  cases i with
  |agg bs=>
   obtain⟨a,rfl,g⟩:=nI h1;obtain⟨c,rfl,hb⟩:=nI d;obtain⟨b,k,l,m,o⟩:=Jf ks as bs _ r a c hk g hb;refine bW f ?_ (.cl (.v _)) l;simp only[doOp];rw[fJ3 ⟨m,o⟩,k]
  |_=>exact aD hk
 |_=>cases i<;>exact aD hk
 exact aD hk
def cE2 {op} (a:dR C n h lim s) (b:LR (RV C) xs ys) (hk:fZ (.un op) xs h n K=some r):iG C n h lim s (.un op) ys K r:=by
 rcases xs with _|⟨x,_|⟨x2,t⟩⟩
 exact aD hk;obtain⟨y,_,rfl,h1,h2⟩:=b.inv_cons;rw[h2.inv_nil];cases x with
 |v xv=>
  rw[iX h1];cases op<;>cases xv<;>first|exact aD hk|exact bW a rfl (.cl (.v _)) hk
 |_=>cases op<;>exact aD hk
 exact aD hk
def fQ1 {k} (a:dR C n h lim s) (b:LR (RV C) xs ys) (hk:fZ (.convI k) xs h n K=some r):iG C n h lim s (.convI k) ys K r:=by
 rcases xs with _|⟨x,_|⟨x2,t⟩⟩
 exact aD hk;obtain⟨y,_,rfl,h1,h2⟩:=b.inv_cons;rw[h2.inv_nil];cases x with
 |v xv=>
  rw[iX h1];cases xv<;>first|exact aD hk|exact bW a rfl (.cl (.v _)) hk
 |_=>exact aD hk
 exact aD hk
def Qa (b:ByteArray):RR (byteRows b) (Sim.byteRows b):=by
 unfold byteRows Sim.byteRows
 induction b.data.toList with
 |nil=>exact .nil
 |cons a as ih=>exact .cons (.cons (.v _) .nil) ih
def xF1 {t} (a:dR C n h lim s) (c:LR (RV C) xs ys) (hk:fZ (.s2b t) xs h n K=some r):iG C n h lim s (.s2b t) ys K r:=by
 rcases xs with _|⟨x,_|⟨x2,t⟩⟩
 exact aD hk;obtain⟨y,_,rfl,h1,h2⟩:=c.inv_cons;rw[h2.inv_nil];cases x with
 |v xv=>
  rw[iX h1];cases xv with
  |string b=>exact bW a rfl (.cl (Qa b).is) hk
  |_=>exact aD hk
 |_=>exact aD hk
 exact aD hk
def mQ1 {f} {m} (g:dR C n h lim s) (e:LR (RV C) xs ys) (hk:fZ (.mkfn f m) xs h n K=some r):iG C n h lim s (.mkfn f m) ys K r:=by
 cases f with
 |func f=>
  have hk:qW m xs (fun a=>kK m xs fun b=>K (.fn f a b) h n)=some r:=by
   rcases xs with _|⟨a,_|⟨b,_|⟨c,t⟩⟩⟩<;>exact hk
  obtain⟨_,i⟩:=pH _ _ _ _ hk;obtain⟨_,j⟩:=gA _ _ _ _ i;have d:=e.take m;have hb:=e.drop m;refine bW g ?_ (.fn d.1 hb.1 d.2 hb.2) j;rcases ys with _|⟨a,_|⟨b,_|⟨c,t⟩⟩⟩<;>rfl
 |_=>rcases xs with _|⟨a,_|⟨b,_|⟨c,t⟩⟩⟩<;>exact aD hk
def fR1 (a:dR C n h lim s) (c:LR (RV C) xs ys) (hk:fZ .mkmap xs h n K=some r):iG C n h lim s .mkmap ys K r:=by
 rcases xs with _|⟨x,t⟩
 have hk:K (.map n) ((n,.mp [])::h) (n+1)=some r:=hk;rw[c.inv_nil];have b:=nH a (.atp s.n 0 0 1);obtain⟨d,f,g⟩:=rX a (po:=.mp []) (ao:=.map []) (ver:=0) (e:=0) (len:=1) ⟨a.lim,by omega,[],by rw[gG,fJ3 rfl],rfl,fun j x y h=>by simp at h⟩;exact⟨_,_,_,_,{v:=.map s.n,new:=some (.map [])},hk,rfl,.map (pJ C n _),d,b,by omega,f,fun _=>g⟩;exact aD hk
def mR1 {ty} {e b} {zero} (d:dR C n h lim s) (o:LR (RV C) xs ys) (hk:fZ (.mksl ty e b zero) xs h n K=some r):iG C n h lim s (.mksl ty e b zero) ys K r:=by
 rcases xs with _|⟨x,_|⟨i,_|⟨x2,t⟩⟩⟩
 exact aD hk;exact aD hk;obtain⟨w,_,rfl,h1,h2⟩:=o.inv_cons;obtain⟨y,_,rfl,k,m⟩:=h2.inv_cons;rw[m.inv_nil];cases x with
 |v xv=>
  cases xv with
  |int k1 l=>
   cases i with
   |v iv=>
    cases iv with
    |int k2 c=>
     rw[iX h1,iX k];have hk:(bif iA ty then none else vY (zero.map .v) (fun z=>cM (pE l c z) fun rows=>K (.own n) ((n,.lst ty e true rows)::h) (n+1)))=some r:=hk;cases hfx:iA ty with
     |true=>rw[hfx]at hk;exact aD hk
     |false=>
     rw[hfx,fZ3]at hk;have j:Ct ty=ty:=by simp[Ct,hfx]
     simp only[rW,cF,fC3,pE]at hk;obtain⟨rows,g,hk⟩:=hk;split at g;rename_i h0;cases g;have f:=nH d (.atp s.n 0 e l.toNat);have a:l.toNat<=c.toNat:=by omega
     obtain⟨p,q,u⟩:=rX d (po:=.lst ty e true (List.replicate l.toNat (zero.map .v))) (ao:=.arr false ty e 0 (List.replicate c.toNat (Sim.zeroRow zero))) (ver:=0) (e:=e) (len:=l.toNat)
      ⟨d.lim,by omega,rfl,by simp,_,by rw[gG,fJ3 rfl,j],by
       rw[List.length_replicate,List.take_replicate,hI3 a];exact RR.replicate (LR.zeroP zero) _,⟨by simpa using a,.zero zero⟩,fun h=>by cases h⟩
     refine⟨_,_,_,_,{v:=.sl e s.n 0 0 l.toNat none,new:=some (.arr false ty e 0 (List.replicate c.toNat (Sim.zeroRow zero)))},hk,?_,.own (pJ C n _),p,f,by omega,q,fun _=>u⟩;simp only[doOp,Sim.intOf];rw[fJ3 h0];cases g
    |_=>exact aD hk
   |_=>exact aD hk
  |_=>cases i with
   |v iv=>cases iv<;>exact aD hk
   |_=>exact aD hk
 |_=>cases i with
  |v iv=>cases iv<;>exact aD hk
  |_=>exact aD hk
 exact aD hk
end
end Go.P
namespace Go.P
open Go.Sim (AV AO Hp mQ upd St IC IX Ex iV CK Wf Out doOp)
variable {lim n:Nat}
section
variable {R:Type} {C:Cx} {h:bA} {s:Hp} {k:iV} {xs:List PV} {ys:List AV} {K:PV->bA->Nat->Option R} {r:R}
def Lh {lo hi} {len} {bs} {K} {a} (b:LR (RV C) bs a) (hk:Cu lo hi len bs K=some r):∃l q,Sim.bounds lo hi len a=some (l,q)/\K l q=some r:=by
 unfold Cu at hk;split at hk;rw[b.inv_nil];exact⟨_,_,rfl,hk⟩;obtain⟨y,_,rfl,h1,h2⟩:=b.inv_cons;rw[h2.inv_nil,iX h1];exact⟨_,_,rfl,hk⟩;obtain⟨y,_,rfl,h1,h2⟩:=b.inv_cons;rw[h2.inv_nil,iX h1];exact⟨_,_,rfl,hk⟩;obtain⟨y,_,rfl,h1,h2⟩:=b.inv_cons;obtain⟨e,_,rfl,c,d⟩:=h2.inv_cons;rw[d.inv_nil,iX h1,iX c];exact⟨_,_,rfl,hk⟩;exact aD hk
def xG1 {e} {lo hi mx} (k:dR C n h lim s) (o:LR (RV C) xs ys) (hk:fZ (.slc e lo hi mx) xs h n K=some r):iG C n h lim s (.slc e lo hi mx) ys K r:=by
 rcases xs with _|⟨x,bs⟩
 exact aD hk;obtain⟨y,a,rfl,h1,h2⟩:=o.inv_cons
 have hk:(bif mx then none else match(generalizing:=false) x with
  |.is e' rows=>bif Nat.beq e' e then Cu lo hi rows.length bs (fun l r=>cM (qY rows l r) fun rows=>K (.is e rows) h n)else none
  |_=>none)=some r:=by
  rcases bs with _|⟨b,_|⟨c,t⟩⟩<;>exact hk
 cases mx with
 |true=>exact aD hk
 |false=>
  rw[fZ3]at hk;cases x with
  |is e' rows=>
   simp only[bJ]at hk;by_cases m:e'=e;subst m;rw[gP3 rfl,fS3]at hk;obtain⟨l,q,hb,hk⟩:=Lh h2 hk;simp only[cF,fC3,qY]at hk;obtain⟨j,f,hk⟩:=hk;split at f;rename_i h0;cases f;rcases wC h1 with⟨rows',rfl,hr⟩|⟨rfl,hy⟩
   have hlen:=hr.1;refine bW k ?_ (.cl ((hr.drop l.toNat).take (q.toNat-l.toNat)).is) hk;have d:Sim.bounds lo hi rows'.length a=some (l,q):=by rw[<-hlen];exact hb
   have:Sim.sliceOp (Sim.look s.h) e' lo hi false (.is e' rows'::a)=some (.is e' ((rows'.drop l.toNat).take (q.toNat-l.toNat))):=by
    simp only[Sim.sliceOp];simp only[fR3,gT3,d];rw[fJ3 ⟨by trivial,h0.1,h0.2.1,by rw[<-hlen];exact h0.2.2⟩]
   rcases a with _|⟨b,_|⟨c,t⟩⟩<;>simp only[doOp,this,gB3];have g:l=0:=by simp at h0;omega
   have i:q=0:=by simp at h0;omega
   subst g;subst i;have d:Sim.bounds lo hi 0 a=some (0,0):=hb
   have:Sim.sliceOp (Sim.look s.h) e' lo hi false (y::a)=some y:=by
    subst hy;simp[Sim.sliceOp,d]
   refine bW (y:=y) k ?_ ?_ hk;rcases a with _|⟨b,_|⟨c,t⟩⟩<;>simp only[doOp,this,gB3]
   grind
   cases f
   grind
  |_=>exact aD hk
def Jg {k} {a b} {a' b'} (c:RC false a a') (hb:RC false b b') {q} (h:xP k a b=some q):Sim.cellEq k a' b'=some q:=by
 unfold xP at h;split at h;cases c;cases hb;exact h;cases c;cases hb;exact h;cases c;cases hb;exact h;cases h
def wE:∀{ks} {as bs} {c d},LR (RC false) as c->LR (RC false) bs d->∀{q},pF ks as bs=some q->Sim.cellsEq ks c d=some q
 |[],[],[],c,d,ha,hb,q,h=>by rw[ha.inv_nil,hb.inv_nil];exact h
 |k::ks,a::as,b::bs,c,d,ha,hb,q,h=>by
  obtain⟨y,ys,rfl,h1,h2⟩:=ha.inv_cons
  obtain⟨z,zs,rfl,e,f⟩:=hb.inv_cons
  simp only[pF]at h
  simp only[Sim.cellsEq]
  split at h
  rename_i he;rw[Jg h1 e he];exact wE h2 f h
  rename_i he;rw[Jg h1 e he];exact h
  cases h
 |[],_::_,_,_,_,_,_,_,h=>by cases h
 |[],[],_::_,_,_,_,_,_,h=>by cases h
 |_::_,[],_,_,_,_,_,_,h=>by cases h
 |_::_,_::_,[],_,_,_,_,_,h=>by cases h
def Um {p} {cs} {y} (h:RC p (.agg cs) y):∃cs',y=.agg cs'/\LR (RC false) cs cs':=by
 cases h with|agg a b=>exact⟨_,rfl,a,b⟩
def Qb {agg} {ks} {a b} {a' b'} (c:RC false a a') (hb:RC false b b') {q} (h:zY agg ks a b=some q):Sim.keyEq agg ks a' b'=some q:=by
 unfold zY at h;unfold Sim.keyEq;cases agg with
 |true=>
  simp only[gF3]at h ⊢;split at h;obtain⟨x,rfl,h1⟩:=Um c;obtain⟨y,rfl,h2⟩:=Um hb;simp only;split at h;rename_i hc;rw[fJ3 ⟨by rw[<-h1.1];exact hc.1,by rw[<-h2.1];exact hc.2⟩];exact wE h1 h2 h;cases h;cases h
 |false=>
  simp only[fR3,gT3]at h ⊢;exact wE (.cons c .nil) (.cons hb .nil) h
def ER.nil:ER [] []:=⟨rfl,fun j x y h=>by simp at h⟩
def ER.inv_cons {x} {es} {es'} (h:ER (x::es) es'):∃y t,es'=y::t/\RC false x.1 y.1/\RC false x.2 y.2/\ER es t:=by
 cases es' with
 |nil=>have:=h.1;simp at this
 |cons y t=>exact⟨y,t,rfl,(h.2 0 x y rfl rfl).1,(h.2 0 x y rfl rfl).2,by have:=h.1;simpa using this,fun j a b c hb=>h.2 (j+1) a b (by simpa using c) (by simpa using hb)⟩
def Cw {agg} {ks} {k} {k'} (hk:RC false k k'):∀{es} {es'} {i} {o},ER es es'->xQ agg ks k es i=some o->
  ∃o',Sim.findKey agg ks k' es' i=some o'/\((o=none/\o'=none)\/∃j x y,o=some (j,x)/\o'=some (j,y)/\RC false x y)
 |[],es',i,o,he,h=>by
  have:es'=[]:=by have:=he.1;simpa using this.symm
  subst this
  simp only[xQ,fN3]at h
  exact⟨none,rfl,.inl ⟨h.symm,rfl⟩⟩
 |(a,x)::es,es',i,o,he,h=>by
  obtain⟨⟨b,y⟩,t,rfl,h1,h2,d⟩:=he.inv_cons
  simp only[xQ]at h
  simp only[Sim.findKey]
  split at h
  rename_i c
  rw[Qb hk h1 c]
  cases h
  exact⟨_,rfl,.inr ⟨i,x,y,rfl,rfl,h2⟩⟩
  rename_i c
  rw[Qb hk h1 c]
  exact Cw hk d h
  cases h
def rC {agg} {ks} {k} {k'} (hk:RC false k k') (h:zZ agg ks k=true):Sim.keyOK agg ks k'=true:=by
 unfold zZ at h;split at h;obtain⟨cs',rfl,hl⟩:=Um hk;simp only[fF3,hX3]at h;simp[Sim.keyOK,<-hl.1,h.2];cases hk;simp only[fX3]at h;subst h;rfl;cases h
def Jh {x} {y} (h:RV C x y):∀{d},fS d x=true->RC false x y:=by
 induction h with
 |cl h=>intro d _;exact h
 |fn h1 h2 v1 v2 i1 i2=>
  intro d hd;cases d with
  |zero=>simp[fS]at hd
  |succ d=>
   simp only[fS,fF3,fH3]at hd;exact .fn h1 h2 (fun j x y a b=>i1 j x y a b (hd.1 x (fL3 a))) (fun j x y a b=>i2 j x y a b (hd.2 x (fL3 a)))
 |agg hl hc ih=>
  intro d hd;cases d with
  |zero=>simp[fS]at hd
  |succ d=>
   simp only[fS,fH3]at hd;exact .agg hl (fun j x y a b=>ih j x y a b (hd x (fL3 a)))
 |tup hl hc ih=>
  intro d hd;cases d with
  |zero=>simp[fS]at hd
  |succ d=>
   simp only[fS,fH3]at hd;exact .tup hl (fun j x y a b=>ih j x y a b (hd x (fL3 a)))
 |_=>intro d hd;cases d<;>simp[fS]at hd
def aN1 {agg ok} {ks} {zero} (f:dR C n h lim s) (B:LR (RV C) xs ys) (hk:fZ (.lookup agg ks zero ok) xs h n K=some r):iG C n h lim s (.lookup agg ks zero ok) ys K r:=by
 rcases xs with _|⟨m,_|⟨k,_|⟨x2,t⟩⟩⟩
 exact aD hk;exact aD hk;obtain⟨p,_,rfl,h1,h2⟩:=B.inv_cons;obtain⟨D,_,rfl,u,w⟩:=h2.inv_cons;rw[w.inv_nil];cases hz:zero with
 |v z=>
  subst hz
  have key:∀es es',ER es es'->Sim.entsOf (Sim.look s.h) p=some es'->
    (bif fS 2 k then(bif ok then cM (xR agg ks (.v z) k es) (fun r=>K (.tup [r.1,.v (.bool r.2)]) h n)else cM (vZ agg ks (.v z) k es) fun r=>K r h n)else none)=some r->iG C n h lim s (.lookup agg ks (.v z) ok) [p,D] K r:=by
   intro es es' he d hk;cases hcl:fS 2 k with
   |false=>rw[hcl]at hk;exact aD hk
   |true=>
   rw[hcl,fS3]at hk;have a:=Jh u hcl;cases ok with
   |true=>
    simp only[fS3,cF,fC3,xR]at hk;obtain⟨q,c,hk⟩:=hk;split at c;rename_i b;simp only[fG3]at c;obtain⟨o,i,rfl⟩:=c;obtain⟨o',g,l⟩:=Cw a he i;rcases l with⟨rfl,rfl⟩|⟨j,x,y,rfl,rfl,hxy⟩
    refine bW f (y:=.tup [.v z,.v (.bool false)]) ?_ ?_ hk;simp[doOp,rC a b,d,g];exact .tup rfl (LR.cons (.cl (.v z)) (.cons (.cl (.v _)) .nil)).2;refine bW f (y:=.tup [y,.v (.bool true)]) ?_ ?_ hk;simp[doOp,rC a b,d,g];exact .tup rfl (LR.cons (.cl hxy) (.cons (.cl (.v _)) .nil)).2;cases c
   |false=>
    simp only[fZ3,cF,fC3,vZ]at hk;obtain⟨q,c,hk⟩:=hk;split at c;rename_i b;simp only[fG3]at c;obtain⟨o,i,rfl⟩:=c;obtain⟨o',g,l⟩:=Cw a he i;rcases l with⟨rfl,rfl⟩|⟨j,x,y,rfl,rfl,hxy⟩
    refine bW f (y:=.v z) ?_ (.cl (.v z)) hk;simp[doOp,rC a b,d,g];refine bW f (y:=y) ?_ (.cl hxy) hk;simp[doOp,rC a b,d,g];cases c
  unfold fZ at hk;simp only at hk;cases m with
  |im es=>
   obtain⟨es',rfl,he⟩:=Wy h1;exact key es es' he rfl hk
  |map j=>
   simp only[iC,fC3]at hk;obtain⟨ob,hg,hk⟩:=hk;cases ob with
   |mp es=>
    obtain⟨id,ver,e,len,A,rfl⟩:=Ad h1;obtain⟨_,es',d,he⟩:=Py f hg A;exact key es es' he.er (by simp[Sim.entsOf,d]) hk
   |_=>exact aD hk
  |_=>exact aD hk
 |_=>subst hz;exact aD hk
 exact aD hk
def uI1 {x} {y} (h:RV C x y) (hp:Ug x=true):RK x y:=by
 cases x with
 |agg cs=>
  obtain⟨cs',rfl,hl⟩:=nI h;exact .inr ⟨cs,cs',rfl,rfl,hl.plain hp⟩
 |_=>exact .inl (h.plain hp)
def fS1 {agg} {ks} (D:dR C n h lim s) (R:LR (RV C) xs ys) (hk:fZ (.mapup agg ks) xs h n K=some r):iG C n h lim s (.mapup agg ks) ys K r:=by
 rcases xs with _|⟨m,_|⟨k,_|⟨x,_|⟨x2,t⟩⟩⟩⟩
 exact aD hk;exact aD hk;exact aD hk;obtain⟨V,_,rfl,h1,h2⟩:=R.inv_cons;obtain⟨w,_,rfl,J,L⟩:=h2.inv_cons;obtain⟨y,_,rfl,M,N⟩:=L.inv_cons;rw[N.inv_nil];cases m with
 |map j=>
  have hk:hK h j (fun ob=>match ob with
   |.mp es=>bif Ug k&&Ug x then cM (Ez agg ks k x es) fun es=>iF h j (.mp es) fun h=>K .undef h n else none
   |_=>none)=some r:=hk
  simp only[iC,fC3]at hk;obtain⟨ob,hg,hk⟩:=hk;cases ob with
  |mp es=>
   by_cases g:(Ug k&&Ug x)=true;simp only[g,fS3,cF,fC3,Ez]at hk;simp only[fF3]at g;obtain⟨d,hp,hk⟩:=hk;have H:=eD _ _ _ _ _ hk;obtain⟨id,ver,e,len,z,rfl⟩:=Ad h1;obtain⟨f,es',B,he⟩:=Py D hg z;have F:=(D.hr.lt (by rw[hg];simp) z).2;have G:=uI1 J g.1;have S:=uI1 M g.2;have q:=G.rc;split at hp;rename_i u;simp only[fG3]at hp;obtain⟨o,P,rfl⟩:=hp;obtain⟨o',q1,q2⟩:=Cw q he.er P
   have fin:∀d c,EM d c->K .undef (dB h j (.mp d)) n=some r->doOp (Sim.look s.h) lim s.n (.mapup agg ks) [.map id,w,y]=some {v:=.undef,up:=some (id,.map c)}->iG C n h lim s (.mapup agg ks) [.map id,w,y] K r:=by
    intro d c E A hd;obtain⟨T,U⟩:=tS D (po':=.mp d) (ao:=.map c) hg z ⟨f,F,c,by rw[Sim.look_upd];simp[B],E⟩ rfl;exact⟨_,_,_,_,_,A,hd,.undef,T,.refl _,fI3 _,U,fun O=>by cases O⟩
   rcases q2 with⟨rfl,rfl⟩|⟨i,x0,y0,rfl,rfl,hxy⟩
   refine fin _ (es'++[(w,y)]) ⟨by simp[he.1],fun i a b p hb=>?_⟩ H ?_;rw[hG3]at p hb;rw[<-he.1]at hb;split at p;rename_i hi;rw[fJ3 hi]at hb;exact he.2 i a b p hb
   grind
   simp only[doOp,B];rw[fJ3 ⟨f,rC q u⟩,q1];refine fin _ (es'.set i (w,y)) ⟨by simp[he.1],fun l a b p hb=>?_⟩ H ?_;rw[gE3]at p hb;split at p
   grind
   rename_i hi;rw[fM3 hi]at hb;exact he.2 l a b p hb;simp only[doOp,B];rw[fJ3 ⟨f,rC q u⟩,q1];cases hp
   grind
  |_=>exact aD hk
 |_=>exact aD hk
 exact aD hk
def xH1 {kd} (a:dR C n h lim s) (i:LR (RV C) xs ys) (hk:fZ (.len kd) xs h n K=some r):iG C n h lim s (.len kd) ys K r:=by
 rcases xs with _|⟨x,_|⟨x2,t⟩⟩
 exact aD hk;obtain⟨y,_,rfl,h1,h2⟩:=i.inv_cons;rw[h2.inv_nil];unfold fZ at hk;simp only[bJ]at hk;split at hk;rename_i e rows;by_cases c:kd=0;subst c;simp only[hB3,fS3,cF,fD3]at hk;rcases Wx h1 with⟨rows',rfl,hr⟩|⟨rfl,rfl|rfl⟩
 exact bW a (by simp[doOp,<-hr.1]) (.cl (.v _)) hk;exact bW a rfl (.cl (.v _)) hk;exact bW a rfl (.cl (.v _)) hk
 grind
 rename_i k;by_cases c:kd=0;subst c;simp only[hB3,fS3,iC,fC3]at hk;obtain⟨ob,hg,hk⟩:=hk;cases ob with
 |lst ty e g rows=>
  simp only[cF,fD3]at hk;rcases lB h1 with⟨id,ver,f,len,b,rfl⟩|⟨b,hy⟩
  obtain⟨_,_,hlen,_⟩:=lS a hg b;subst hlen;exact bW a rfl (.cl (.v _)) hk;have:=mZ a hg b;subst this;rcases hy with rfl|rfl;exact bW a rfl (.cl (.v _)) hk;exact bW a rfl (.cl (.v _)) hk
 |fl fs=>
  rcases lB h1 with⟨id,ver,f,len,b,rfl⟩|⟨b,hy⟩
  obtain⟨_,_,hlen,_⟩:=fL1 a hg b;subst hlen;exact bW a rfl (.cl (.v _)) hk;exact(fM1 a hg b).elim
 |tr t rows hs=>
  obtain⟨ty,e2,ks⟩:=t;simp only[cF,fD3]at hk;rcases lB h1 with⟨id,ver,f,len,b,rfl⟩|⟨b,hy⟩
  obtain⟨_,_,_,hlen,_⟩:=nA a hg b;subst hlen;exact bW a rfl (.cl (.v _)) hk;have:=(tV a hg b).1;subst this;rcases hy with rfl|rfl;exact bW a rfl (.cl (.v _)) hk;exact bW a rfl (.cl (.v _)) hk
 |_=>exact aD hk
 grind
 rename_i d e rows;by_cases c:kd=0;subst c;simp only[hB3,fS3,cF,fD3]at hk;rcases Fk (yA h1)with(⟨rows',rfl,hr⟩|⟨rfl,rfl⟩)|⟨d',id,ver,ty,els,_,rfl,_,_,_⟩
 exact bW a (by simp[doOp,<-hr.1]) (.cl (.v _)) hk;exact bW a rfl (.cl (.v _)) hk;exact bW a rfl (.cl (.v _)) hk
 grind
 by_cases c:kd=0;subst c;rw[iX h1];exact bW a rfl (.cl (.v _)) hk
 grind
 by_cases c:kd=1;subst c;rw[iX h1];exact bW a rfl (.cl (.v _)) hk
 grind
 exact aD hk;exact aD hk
def Qc {mx} {k}:∀{xs} {ys} {a} {K},LR (RV C) xs ys->mnK mx k a xs K=some r->∃b,(if mx then Sim.foldMx k a ys else Sim.foldMn k a ys)=some b/\K b=some r
 |[],ys,a,K,hx,h=>by
  rw[hx.inv_nil]
  cases mx<;>exact⟨a,rfl,h⟩
 |x::xs,ys,a,K,hx,h=>by
  obtain⟨y,g,rfl,h1,h2⟩:=hx.inv_cons
  cases x with
  |v xv=>
   cases xv with
   |int k' b=>
    have h:(bif kEq k k' then mnK mx k (bif mx then(if b>a then b else a)else(if b<a then b else a)) xs K else none)=some r:=h
    rw[Lf]at h
    by_cases e:k=k'
    rw[gP3 e,fS3]at h
    obtain⟨c,d,f⟩:=Qc h2 h
    refine⟨c,?_,f⟩
    rw[iX h1]
    cases mx
    simpa[Sim.foldMn,e]using d
    simpa[Sim.foldMx,e]using d
    grind
   |_=>exact aD h
  |_=>exact aD h
def cF2 (f:dR C n h lim s) (g:LR (RV C) xs ys) (hk:fZ .mx xs h n K=some r):iG C n h lim s .mx ys K r:=by
 rcases xs with _|⟨x,t⟩
 exact aD hk;obtain⟨y,d,rfl,h1,h2⟩:=g.inv_cons
 have hk:(match(generalizing:=false) x with
  |.v (.int k a)=>mnK true k a t (fun r=>K (.v (.int k r)) h n)
  |_=>none)=some r:=by rcases t with _|⟨b,_|⟨c,t⟩⟩<;>exact hk
 cases x with
 |v xv=>
  cases xv with
  |int k a=>
   obtain⟨b,e,i⟩:=Qc h2 hk;rw[iX h1];refine bW f ?_ (.cl (.v _)) i;simp only[gF3]at e;rcases d with _|⟨b,_|⟨c,t⟩⟩<;>simp only[doOp,e,gB3]
  |_=>exact aD hk
 |_=>exact aD hk
def xI1 {i} (b:dR C n h lim s) (d:LR (RV C) xs ys) (hk:fZ (.ext i) xs h n K=some r):iG C n h lim s (.ext i) ys K r:=by
 rcases xs with _|⟨x,_|⟨x2,t⟩⟩
 exact aD hk;obtain⟨y,_,rfl,h1,h2⟩:=d.inv_cons;rw[h2.inv_nil];cases x with
 |tup vs=>
  have hk:kK i vs (fun vs=>match vs with
   |v::_=>K v h n
   |[]=>none)=some r:=hk
  obtain⟨e,a⟩:=gA _ _ _ _ hk;obtain⟨cs',rfl,hl⟩:=Ac h1;cases hd:vs.drop i with
  |nil=>rw[hd]at a;exact aD a
  |cons c t=>
   rw[hd]at a;obtain⟨y,hy,hv⟩:=hl.get (Ae hd);exact bW b (by simp[doOp,hy]) hv a
 |_=>exact aD hk
 exact aD hk
end
end Go.P
namespace Go.P
open Go.Sim (AV AO Hp mQ upd St IC IX Ex iV CK Wf Out doOp)
variable {lim n:Nat}
def yB {α}:∀(l:aA α) (o:Nat) (cs:aA α),o+cs.length<=l.length->Sim.setL l o cs=l.take o++cs++l.drop (o+cs.length)
 |[],o,cs,h=>by
  have h1:cs=[]:=by
   cases cs with
   |nil=>rfl
   |cons a as=>simp at h
  subst h1;simp[Sim.setL]
 |a::l,0,[],h=>by simp[Sim.setL]
 |a::l,0,c::cs,h=>by
  simp only[Sim.setL,List.set_cons_zero];rw[rB,yB l 0 cs (by simp at h ⊢;omega)];simp
 |a::l,o+1,cs,h=>by
  rw[rB,yB l o cs (by simp at h ⊢;omega)];simp[Nat.add_right_comm]
def uW (e:Nat):∀(m i:Nat) (cells xs:aA AV) (a:aA (aA AV)),cells.length=(i+m)*e->xs.length=m->a.length=m->
  (∀(j:Nat) (x:AV),xs[j]? =some x->∃cs,x.cells=some cs/\cs.length=e/\a[j]? =some cs)->
  Sim.fillParts cells ((List.range' i m).map fun i=>(i*e,e)) xs=some (cells.take (i*e)++a.flatten)
 |0,i,cells,xs,a,h1,h2,h3,h4=>by
  have g:xs=[]:=by simpa using h2
  have e2:a=[]:=by simpa using h3
  subst g;subst e2
  simp only[List.range'_zero,jG3,Sim.fillParts,List.flatten_nil,hS3]
  rw[gW3 (by rw[h1];simp)]
 |m+1,i,cells,xs,a,h1,h2,h3,h4=>by
  match xs,a,h2,h3 with
  |x::xs,cs0::a,h2,h3=>
   obtain⟨cs,k,d,f⟩:=h4 0 x rfl
   simp at f
   subst f
   simp only[List.range'_succ,iA3,Sim.fillParts,k]
   have b:i*e+e<=cells.length:=by
    rw[h1];have:(i+1)*e<=(i+(m+1))*e:=gS3 _ (by omega);rw[hK3,Nat.one_mul]at this;exact this
   rw[fJ3 ⟨d,b⟩];have hs:=yB cells (i*e) cs0 (by rw[d];exact b)
   have hlen:(Sim.setL cells (i*e) cs0).length=cells.length:=by
    rw[hs];simp[d];omega
   rw[uW e m (i+1) _ xs a (by rw[hlen,h1];congr 1;omega) (by simpa using h2) (by simpa using h3) (fun j x h=>by
    obtain⟨c,q1,q2,q3⟩:=h4 (j+1) x (by simpa using h);exact⟨c,q1,q2,by simpa using q3⟩)]
   congr 1;rw[hs,jE3,<-List.append_assoc];congr 1
   have hl:(cells.take (i*e)++cs0).length=(i+1)*e:=by
    simp[d,hK3];omega
   rw[List.take_append_of_le_length (by rw[hl];exact fI3 _),gW3 (by rw[hl];exact fI3 _)]
def Wz (e:Nat):∀(a:aA (aA AV)),(∀c∈a,c.length=e)->(List.range a.length).map (fun i=>(a.flatten.drop (i*e)).take e)=a
 |[],_=>rfl
 |c::a,h=>by
  have hc:=h c (by simp)
  have ih:=Wz e a (fun c hc=>h c (by simp[hc]))
  rw[gR3,List.range_succ_eq_map,iA3,List.map_map]
  simp only[jF3,hE3,jE3]
  rw[List.take_append_of_le_length (by omega),gW3 (by omega)]
  congr 1
  refine Eq.trans (List.map_congr_left fun i _=>?_) ih
  simp only[Function.comp]
  rw[hQ3,hV3,<-hc,<-iB3,List.drop_left]
def yC (l:aA AV):∀(m:aA Nat),(m.flatMap fun _=>l).length=m.length*l.length
 |[]=>by simp
 |a::m=>by
  rw[jH3,hH3,yC l m,gR3,hQ3,hV3]
section
variable {R:Type} {C:Cx} {h:bA} {s:Hp} {k:iV} {xs:List PV} {ys:List AV} {K:PV->bA->Nat->Option R} {r:R}
def Un {ty} {e len} {zero} {parts} (B:dR C n h lim s) (o:LR (RV C) xs ys) (hk:fZ (.buildSl ty e len zero parts) xs h n K=some r):iG C n h lim s (.buildSl ty e len zero parts) ys K r:=by
 have hk:(bif Lb 0 parts&&(Nat.beq zero.length e&& !(iA ty))then(bif Nat.beq parts.length len then bif xs.all fA1 then xS e xs fun rows=>bif Nat.beq rows.length len then K (.own n) ((n,.lst ty e false rows)::h) (n+1)else none else none else none)else none)=some r:=by
  rcases xs with _|⟨a,_|⟨b,_|⟨c,t⟩⟩⟩<;>exact hk
 by_cases hc:(Lb 0 parts&&(Nat.beq zero.length e&& !(iA ty)))=true;rw[hc,fS3]at hk;simp only[fF3,bJ,fO3]at hc hk;obtain⟨c1,c2,l⟩:=hc;have J:Ct ty=ty:=by simp only[fX3]at l;simp[Ct,l]
 have R:iA ty=false:=by simpa using l
 by_cases c3:parts.length=len;rw[gP3 c3,fS3]at hk
 have F:∃(po:eT) (rows:aA (aA PV)) (Q:PV->AV->Prop),K (.own n) ((n,po)::h) (n+1)=some r/\rows.length=len/\rows.length=xs.length/\
   (∀(j:Nat) (x:PV),xs[j]? =some x->∃cs,gU x=some cs/\∃r,rows[j]? =some r/\r.length=e/\∀cs',LR (RV C) cs cs'->LR Q r cs')/\
   ∀d:aA (aA AV),rows.length=d.length->(∀(i:Nat) (r:aA PV) (r':aA AV),rows[i]? =some r->d[i]? =some r'->LR Q r r')->
    gO (ext C n (.atp s.n 0 e len)) (Sim.look (.ob s.n (.arr false ty e 0 d)::s.h)) lim (s.n+1) po (.atp s.n 0 e len):=by
  cases hpl:xs.all fA1 with
  |true=>
   rw[hpl,fS3]at hk;obtain⟨rows,p,L,M⟩:=xZ e xs _ r hk;by_cases c4:rows.length=len;rw[gP3 c4,fS3]at p;refine⟨_,rows,RC true,p,c4,L,fun j x o=>?_,fun d hl D=>?_⟩;obtain⟨cs,q1,q2,q3,q4⟩:=M j x o;exact⟨cs,q1,cs,q4,q2,fun cs' h=>h.plain q3⟩;exact⟨B.lim,by omega,rfl,c4.symm,d,by rw[gG,fJ3 rfl,J],by rw[gW3 (by rw[hl];exact fI3 _)];exact⟨hl,D⟩,⟨by rw[hl];exact fI3 _,.exact (by rw[hl];exact fI3 _)⟩,fun _=>hl.symm⟩;rw[gJ3 c4]at p;exact aD p
  |false=>rw[hpl,fZ3]at hk;exact aD hk
 obtain⟨po,rows,Q,p,c4,L,M,N⟩:=F;have hp:=Ab 0 parts c1;rw[c3]at hp;subst hp
 have z:∀(j:Nat) (x:AV),ys[j]? =some x->∃cs,x.cells=some cs/\cs.length=e/\∃r,rows[j]? =some r/\LR Q r cs:=by
  intro j y hy;have u:j<xs.length:=by rw[o.1];exact(fE3.1 hy).1
  obtain⟨cs,q1,A,q2,q3,q4⟩:=M j xs[j] (by simp);obtain⟨cs',p1,p2⟩:=pI (o.2 j xs[j] y (by simp) hy) q1;have:=q4 cs' p2;exact⟨cs',p1,by rw[<-this.1];exact q3,A,q2,this⟩
 have m:∃d:aA (aA AV),d.length=ys.length/\∀(j:Nat) (x:AV),ys[j]? =some x->∃cs,x.cells=some cs/\cs.length=e/\d[j]? =some cs/\∃r,rows[j]? =some r/\LR Q r cs:=by
  refine⟨ys.map fun y=>(y.cells).getD [],by simp,fun j y hy=>?_⟩;obtain⟨cs,p1,p2,p3⟩:=z j y hy;exact⟨cs,p1,p2,by simp[hy,p1],p3⟩
 obtain⟨d,s1,O⟩:=m;have f:ys.length=len:=by rw[<-o.1,<-L,c4]
 have S:(Sim.zeroRow zero).length=e:=by simp[Sim.zeroRow,c2]
 have E:((List.range len).flatMap fun _=>Sim.zeroRow zero).length=len*e:=by
  rw[yC,S,List.length_range]
 have k:=uW e len 0 ((List.range len).flatMap fun _=>Sim.zeroRow zero) ys d (by rw[E];simp) f (by rw[s1,f]) (fun j x o=>by
  obtain⟨cs,p1,p2,p3,_⟩:=O j x o;exact⟨cs,p1,p2,p3⟩)
 simp only[jF3,List.take_zero,jB3]at k
 have q:∀c∈d,c.length=e:=by
  intro c hc;obtain⟨j,P⟩:=fQ3.1 hc;have u:j<ys.length:=by rw[<-s1];exact(fE3.1 P).1
  obtain⟨cs,p1,p2,p3,_⟩:=O j ys[j] (by simp);rw[P]at p3;cases p3;exact p2
 have g:=Wz e d q;rw[s1,f]at g
 have D:∀(j:Nat) (A:aA PV) (r1:aA AV),rows[j]? =some A->d[j]? =some r1->LR Q A r1:=by
  intro j A r1 H w;have u:j<ys.length:=by rw[<-s1];exact(fE3.1 w).1
  obtain⟨cs,p1,p2,p3,r2,p4,p5⟩:=O j ys[j] (by simp);rw[w]at p3;cases p3;rw[H]at p4;cases p4;exact p5
 have G:=nH B (.atp s.n 0 e len);obtain⟨T,U,V⟩:=rX B (po:=po) (ao:=.arr false ty e 0 d) (ver:=0) (e:=e) (len:=len) (N d (by rw[c4,s1,f]) D);refine⟨_,_,_,_,{v:=.sl e s.n 0 0 len none,new:=some (.arr false ty e 0 d)},p,?_,.own (pJ C n _),T,G,by omega,U,fun _=>V⟩
 have:doOp (Sim.look s.h) lim s.n (.buildSl ty e len zero (List.range' 0 len)) ys=(Sim.fillParts ((List.range len).flatMap fun _=>Sim.zeroRow zero) ((List.range' 0 len).map fun i=>(i*e,e)) ys).map fun cs=>
  {v:=.sl e s.n 0 0 len none,new:=some (.arr false ty e 0 ((List.range len).map fun i=>(cs.drop (i*e)).take e))}:=by
  rcases ys with _|⟨a,_|⟨b,_|⟨c,t⟩⟩⟩<;>rfl
 rw[this,k];simp only[gB3];rw[g];rw[gJ3 c3]at hk;exact aD hk;simp only[iX3]at hc;rw[hc]at hk;exact aD hk
def Fs {i}:∀{m:Nat} {K:Nat->aB R} {r:R},Pm i m K=some r->∃j,j<m/\i=(j:Int)/\K j=some r
 |0,K,r,h=>by unfold Pm at h;exact aD h
 |m+1,K,r,h=>by
  unfold Pm at h
  rw[tL]at h
  split at h
  rename_i e;exact⟨m,by omega,by simpa using e,h⟩
  obtain⟨j,h1,h2,a⟩:=Fs h;exact⟨j,by omega,h2,a⟩
def mS1 {len esz} (l:dR C n h lim s) (m:LR (RV C) xs ys) (hk:fZ (.iadA len esz) xs h n K=some r):iG C n h lim s (.iadA len esz) ys K r:=by
 rcases xs with _|⟨p,_|⟨i,_|⟨x2,t⟩⟩⟩
 exact aD hk;exact aD hk;obtain⟨u,_,rfl,h1,h2⟩:=m.inv_cons;obtain⟨w,_,rfl,d,f⟩:=h2.inv_cons;rw[f.inv_nil];unfold fZ at hk;simp only at hk;split at hk;rename_i i;split at hk;rename_i k o;obtain⟨j,q,a,b⟩:=Fs hk;clear hk;subst a;rw[iX d];obtain⟨id,ver,e,c,g,rfl⟩:=mG h1;refine bW (v:=.ref k (o+j*esz)) (y:=.ptr id ver 0 (o+j*esz)) l ?_ (.ref g) b;simp only[doOp,Sim.intOf];rw[fJ3 ⟨by omega,by omega⟩];simp;exact aD hk;exact aD hk;exact aD hk
def Qd (g:dR C n h lim s) (j:LR (RV C) xs ys) (hk:fZ k xs h n K=some r):iG C n h lim s k ys K r:=by
 cases k with
 |mov=>exact wY1 g j hk
 |nilc=>exact mO1 g j hk
 |box ty size=>exact wZ1 g j hk
 |alloc ty zero=>exact fJ1 g j hk
 |build zero parts=>exact fK1 g j hk
 |buildSl ty e len zero parts=>exact Un g j hk
 |loadS=>exact fN1 g j hk
 |loadA m=>exact fO1 g j hk
 |store m=>exact fP1 g j hk
 |fad off=>exact xA1 g j hk
 |iad e=>exact xB1 g j hk
 |iadA len esz=>exact mS1 g j hk
 |idxStr=>exact aL1 g j hk
 |idxA len e agg=>exact mP1 g j hk
 |bin op=>exact xC1 g j hk
 |eqB neg=>exact xD1 g j hk
 |eqA neg ks=>exact xE1 g j hk
 |un op=>exact cE2 g j hk
 |convI k=>exact fQ1 g j hk
 |s2b t=>exact xF1 g j hk
 |mkfn f m=>exact mQ1 g j hk
 |mkmap=>exact fR1 g j hk
 |mksl ty e b zero=>exact mR1 g j hk
 |slc e lo hi mx=>exact xG1 g j hk
 |lookup agg ks zero ok=>exact aN1 g j hk
 |mapup agg ks=>exact fS1 g j hk
 |len kd=>exact xH1 g j hk
 |mx=>exact cF2 g j hk
 |ext i=>exact xI1 g j hk
 |_=>rcases xs with _|⟨a,_|⟨b,_|⟨c,_|⟨d,t⟩⟩⟩⟩<;>exact aD hk
end
end Go.P
namespace Go.P
open Go.Sim (AV AO Hp mQ upd St IC IX Ex iV CK Wf Out doOp mO Foot foot exec runOps fO wanted put iT)
def kF:iV->Bool
 |.callF _|.callV=>true
 |_=>false
def lI (N:FuncId->Bool) (dr:Nat):iV->Nat
 |.len kd=>bif Nat.beq kd 2 then 1 else 0
 |.loadS|.loadA _|.lookup .. |.slc .. |.b2s=>1
 |.box .. |.alloc .. |.buildSl .. |.mkmap|.mksl .. =>2
 |.callF f=>if N f then(if 6<=dr then(if f+6=dr then 7 else 8)else 4)else 3
 |.callV=>if dr=4 then 4 else 3
 |.store _|.mapup .. |.append .. |.copy _|.clear .. =>5
 |_=>0
inductive Tr (T:mO) (N:FuncId->Bool) (dr lim:Nat):List Sim.Op1->St->List Foot->St->Prop
 |nil {σ:St}:Tr T N dr lim [] σ [] σ
 |skip {o:Sim.Op1} {os:List Sim.Op1} {σ τ:St} {fs:List Foot} (hw:wanted σ.t o.guard=false) (h:Tr T N dr lim os {t:=put σ.t o.dst .undef,s:=σ.s} fs τ):Tr T N dr lim (o::os) σ ({}::fs) τ
 |op {o:Sim.Op1} {os:List Sim.Op1} {σ τ:St} {fs:List Foot} {xs:List AV} {out:Out} (hw:wanted σ.t o.guard=true) (he:Sim.evs σ.t o.xs=some xs) (hc:kF o.k=false)
   (hd:doOp (Sim.look σ.s.h) lim σ.s.n o.k xs=some out) (h:Tr T N dr lim os {t:=put σ.t o.dst out.v,s:=out.apply σ.s} fs τ):
   Tr T N dr lim (o::os) σ ({foot T o.k xs with al:=List.range' σ.s.n ((out.apply σ.s).n-σ.s.n)}::fs) τ
 |call {o:Sim.Op1} {os:List Sim.Op1} {σ τ:St} {fs:List Foot} {xs:List AV} {v:AV} (hw:wanted σ.t o.guard=true) (he:Sim.evs σ.t o.xs=some xs) (hc:kF o.k=true) (hk:lI N dr o.k=3\/lI N dr o.k=4) (hf:foot T o.k xs={all:=1,x:=true})
   (hs:∃D,∀d,D<=d->∀m,Sim.step T (exec T d) lim o.k xs {h:=σ.s.h,n:=m}=some (v,{h:=σ.s.h,n:=m})) (h:Tr T N dr lim os {t:=put σ.t o.dst v,s:=σ.s} fs τ):
   Tr T N dr lim (o::os) σ ({all:=1,x:=true}::fs) τ
 |ncall {o:Sim.Op1} {os:List Sim.Op1} {σ τ:St} {fs:List Foot} {xs:List AV} {v:AV} {s':Hp} (hw:wanted σ.t o.guard=true) (he:Sim.evs σ.t o.xs=some xs) (hc:kF o.k=true) (hf:(foot T o.k xs).all=2\/dr=0) (hk:dr≠0->lI N dr o.k=4)
   (hs:∃D,∀d,D<=d->Sim.step T (exec T d) lim o.k xs σ.s=some (v,s')) (hn:σ.s.n<=s'.n) (h:Tr T N dr lim os {t:=put σ.t o.dst v,s:=s'} fs τ):
   Tr T N dr lim (o::os) σ ({foot T o.k xs with al:=List.range' σ.s.n (s'.n-σ.s.n)}::fs) τ
 |ycall {o:Sim.Op1} {os:List Sim.Op1} {σ τ:St} {fs:List Foot} {xs:List AV} {v:AV} {s':Hp} {w:List Nat} (hw:wanted σ.t o.guard=true) (he:Sim.evs σ.t o.xs=some xs) (hc:kF o.k=true) (hk:lI N dr o.k=7\/lI N dr o.k=8/\w=[]) (hf:(foot T o.k xs).all=3)
   (hs:∃D,∀d,D<=d->Sim.callX true (Sim.step T (exec T d) lim o.k xs) [] xs σ.s=some (v,s',w)) (hn:σ.s.n<=s'.n) (h:Tr T N dr lim os {t:=put σ.t o.dst v,s:=s'} fs τ):
   Tr T N dr lim (o::os) σ ({wr:=w,al:=List.range' σ.s.n (s'.n-σ.s.n),all:=1,x:=true}::fs) τ
section
variable {T:mO} {N:FuncId->Bool} {dr lim:Nat}
def Tr.append {as bs} {σ τ υ} {fs gs} (h:Tr T N dr lim as σ fs τ) (k:Tr T N dr lim bs τ gs υ):Tr T N dr lim (as++bs) σ (fs++gs) υ:=by
 induction h with
 |nil=>exact k
 |skip hw h ih=>exact .skip hw (ih k)
 |op hw he hc hd h ih=>exact .op hw he hc hd (ih k)
 |call hw he hc hk hf hs h ih=>exact .call hw he hc hk hf hs (ih k)
 |ncall hw he hc hf hk hs hn h ih=>exact .ncall hw he hc hf hk hs hn (ih k)
 |ycall hw he hc hk hf hs hn h ih=>exact .ycall hw he hc hk hf hs hn (ih k)
def Xa {ex} {k} {xs} {s} {out} (hc:kF k=false) (hd:doOp (Sim.look s.h) lim s.n k xs=some out):Sim.step T ex lim k xs s=some (out.v,out.apply s):=by
 unfold Sim.step;split;simp[kF]at hc;simp[kF]at hc;rw[hd]
def Xb {k} (h:lI N dr k=7\/lI N dr k=8):6<=dr:=by
  cases k
  case callF f => simp only[lI]at h;repeat' split at h
                  all_goals first|assumption|omega
  case len kd=>simp only[lI]at h;cases hk:Nat.beq kd 2<;>rw[hk]at h<;>simp at h
  all_goals simp[lI]at h
  all_goals (split at h<;>omega)
def Tr.run (e:dr=0) {os} {σ τ} {fs} (h:Tr T N dr lim os σ fs τ):∃D,∀d,D<=d->runOps T (exec T d) lim os σ=some τ:=by
 induction h with
 |nil=>exact⟨0,fun d _=>rfl⟩
 |skip hw h ih=>
  obtain⟨D,a⟩:=ih;refine⟨D,fun d hd=>?_⟩;simp only[runOps,hw];exact a d hd
 |op hw he hc hd h ih=>
  obtain⟨D,a⟩:=ih;refine⟨D,fun d c=>?_⟩;simp only[runOps,hw,gF3,he,Xa hc hd];exact a d c
 |@ncall o os σ τ fs xs v s' hw he hc hf hk hs hn h ih=>
  obtain⟨D,a⟩:=ih;obtain⟨D2,b⟩:=hs;refine⟨max D D2,fun d hd=>?_⟩;simp only[runOps,hw,gF3,he,b d (by omega)];exact a d (by omega)
 |ycall hw he hc hk hf hs hn h ih=>exact absurd (Xb (hk.imp id And.left)) (by omega)
 |@call o os σ τ fs xs v hw he hc hk hf hs h ih=>
  obtain⟨D,a⟩:=ih;obtain⟨D2,b⟩:=hs;refine⟨max D D2,fun d hd=>?_⟩;simp only[runOps,hw,gF3,he];have:=b d (by omega) σ.s.n;rw[show({h:=σ.s.h,n:=σ.s.n}:Hp)=σ.s from rfl]at this;rw[this];exact a d (by omega)
def pK (c:Nat) (f:Foot):Prop:=
 f={}\/match c with
  |0=>f={}
  |1=>f.wr=[]/\f.al=[]/\f.all=0
  |2=>f.rd=[]/\f.wr=[]/\f.all=0
  |3=>f={all:=1,x:=true}
  |5=>f.all=0
  |6=>f.all=0
  |7=>f.rd=[]/\f.all=1/\f.x=true
  |8=>f.rd=[]/\f.wr=[]/\f.all=1/\f.x=true
  |_=>True
def kG (i j:Nat):Bool:=
 bif Nat.beq i 0 then !Nat.beq j 4 else bif Nat.beq j 0 then !Nat.beq i 4 else
  (Nat.ble i 3&&Nat.ble j 3&& !(Nat.beq i 3&&Nat.beq j 3)&& !(Nat.beq i 2&&(Nat.beq j 3||Nat.beq j 1)))||(Nat.beq i 5&&Nat.beq j 2)
def Li (i j:Nat):Bool:=(Nat.ble 7 i&&Nat.beq j 2)||(Nat.beq j 8&&Nat.beq i 1)
def sA (i j:Nat):Bool:=Nat.beq i 0||Nat.beq j 0||kG i j||Li i j
def Uo {i j} {f g} (hi:i<=5) (b:j<=5) (h:kG i j=true) (hf:pK i f) (hg:pK j g):Sim.compat0 f g=true:=by
 unfold pK at hf hg;have k:∀g:Foot,g.all<=1->Sim.compat0 {} g=true:=fun g hg=>by simp[Sim.compat0,hg]
 have d:∀f:Foot,f.all<=1->Sim.compat0 f {}=true:=fun f hf=>by simp[Sim.compat0,hf]
 have e:i≠4:=by rintro rfl;(match j,b,h with|0,_,h|1,_,h|2,_,h|3,_,h|4,_,h|5,_,h=>simp[kG]at h)
 have a:j≠4:=by rintro rfl;(match i,hi,h with|0,_,h|1,_,h|2,_,h|3,_,h|4,_,h|5,_,h=>simp[kG]at h)
 have a1:∀{c:Nat} {f:Foot},c<=5->c≠4->(f={}\/match c with
  |0=>f={}
  |1=>f.wr=[]/\f.al=[]/\f.all=0
  |2=>f.rd=[]/\f.wr=[]/\f.all=0
  |3=>f={all:=1,x:=true}
  |5=>f.all=0
  |6=>f.all=0
  |7=>f.rd=[]/\f.all=1/\f.x=true
  |8=>f.rd=[]/\f.wr=[]/\f.all=1/\f.x=true
  |_=>True)->f.all<=1:=by grind
 have b1:=a1 hi e hf;have b2:=a1 b a hg;rcases hf with rfl|hf;exact k g b2;rcases hg with rfl|hg;exact d f b1
 have fin:f.wr=[]->g.wr=[]->f.al=[]\/(g.rd=[])->f.all+g.all<=1->Sim.compat0 f g=true:=by
  intro q1 q2 q3 q4;rcases q3 with q3|q3<;>simp[Sim.compat0,q1,q2,q3,q4]
 match i,hi,e,h,hf with
 |0,_,_,_,hf=>rw[hf];exact k g b2
 |1,_,_,h,hf=>
  obtain⟨p1,p2,p3⟩:=hf
  match j,b,a,h,hg with
  |0,_,_,_,hg=>rw[hg];exact d f b1
  |1,_,_,_,hg=>exact fin p1 hg.1 (.inl p2) (by rw[p3,hg.2.2];simp)
  |2,_,_,_,hg=>exact fin p1 hg.2.1 (.inl p2) (by rw[p3,hg.2.2];simp)
  |3,_,_,_,hg=>exact fin p1 (by rw[hg]) (.inl p2) (by rw[p3,hg];simp)
  |4,_,h4,_,_=>exact absurd rfl h4
  |5,_,_,h,_=>simp[kG]at h
 |2,_,_,h,hf=>
  obtain⟨p1,p2,p3⟩:=hf
  match j,b,a,h,hg with
  |0,_,_,_,hg=>rw[hg];exact d f b1
  |1,_,_,h,_=>simp[kG]at h
  |2,_,_,_,hg=>exact fin p2 hg.2.1 (.inr hg.1) (by rw[p3,hg.2.2];simp)
  |3,_,_,h,_=>simp[kG]at h
  |4,_,h4,_,_=>exact absurd rfl h4
  |5,_,_,h,_=>simp[kG]at h
 |3,_,_,h,hf=>
  match j,b,a,h,hg with
  |0,_,_,_,hg=>rw[hg];exact d f b1
  |1,_,_,_,hg=>exact fin (by rw[hf]) hg.1 (.inl (by rw[hf])) (by rw[hf,hg.2.2];simp)
  |2,_,_,_,hg=>exact fin (by rw[hf]) hg.2.1 (.inl (by rw[hf])) (by rw[hf,hg.2.2];simp)
  |3,_,_,h,_=>simp[kG]at h
  |4,_,h4,_,_=>exact absurd rfl h4
  |5,_,_,h,_=>simp[kG]at h
 |4,_,h1,_,_=>exact absurd rfl h1
 |5,_,_,h,hf=>
  match j,b,a,h,hg with
  |0,_,_,_,hg=>rw[hg];exact d f b1
  |1,_,_,h,_=>simp[kG]at h
  |2,_,_,_,hg=>
   obtain⟨p1,p2,p3⟩:=hg;have hf:f.all=0:=hf;simp[Sim.compat0,p1,p2,p3,hf]
  |3,_,_,h,_=>simp[kG]at h
  |4,_,h4,_,_=>exact absurd rfl h4
  |5,_,_,h,_=>simp[kG]at h
def Jj {i j} {f g} (hi:i<=8) (o:j<=8) (h:sA i j=true) (hf:pK i f) (hg:pK j g):Sim.compat f g=true:=by
 simp only[sA,fW3]at h
 have left:i=0->Sim.compat f g=true:=by
  intro this;subst this;rcases hf with rfl|hf;rfl;have hf:f={}:=hf;subst hf;rfl
 have right:j=0->Sim.compat f g=true:=by
  intro this;subst this;have hg:g={}:=by rcases hg with hg|hg<;>exact hg
  subst hg;simp[Sim.compat,Sim.Foot.isE]
 have m:∀g:Foot,Sim.compat {} g=true:=fun g=>rfl;have n:∀f:Foot,Sim.compat f {}=true:=fun f=>by simp[Sim.compat,Sim.Foot.isE]
 rcases h with((h|h)|h)|h;simp_all;simp_all;by_cases l:i<=5/\j<=5;simp[Sim.compat,Uo l.1 l.2 h hf hg];unfold kG at h;by_cases d:i=0;exact left d;by_cases e:j=0;exact right e;rw[bJ,gJ3 d,fZ3,bJ,gJ3 e,fZ3]at h;simp only[fW3,fF3,iO3,bJ,fO3]at h;omega;simp only[Li,fW3,fF3,bJ,fO3,iO3]at h
 have k:7<=i->f={}\/(f.rd=[]/\f.all=1):=fun l=>by
  rcases hf with h|h;exact .inl h
  grind
 rcases h with⟨h1,rfl⟩|⟨rfl,rfl⟩
 rcases k h1 with rfl|⟨a,c⟩
 exact m g;rcases hg with rfl|hg;exact n f;obtain⟨p1,p2,p3⟩:g.rd=[]/\g.wr=[]/\g.all=0:=hg;simp[Sim.compat,Sim.compat0,a,c,p1,p2,p3];rcases hg with rfl|hg;exact n f;obtain⟨a,b,c,_⟩:g.rd=[]/\g.wr=[]/\g.all=1/\g.x=true:=hg;rcases hf with rfl|hf;exact m g;obtain⟨p1,p2,p3⟩:f.wr=[]/\f.al=[]/\f.all=0:=hf;simp[Sim.compat,Sim.compat0,a,b,c,p1,p2,p3]
def qN (N:FuncId->Bool) (dr:Nat) (k:iV):lI N dr k<=8:=by
  cases k
  case len kd=>simp only[lI];cases Nat.beq kd 2<;>simp
  case callF f => simp only[lI];repeat' split
                  all_goals omega
  all_goals simp[lI]<;>split<;>omega
def fV1 {N} {dr} {k} (h:kF k=true):lI N dr k=3\/lI N dr k=4\/7<=lI N dr k:=by
 cases k<;>simp[kF]at h<;>simp only[lI]
 all_goals repeat' split
 all_goals omega
def uJ1 {L} {n} {k} {xs} {out} (h:doOp L lim n k xs=some out) (hk:lI N dr k<=1):out.new=none:=by
 have hc:∀{o:aB Out} {P:Prop},o=some out->(∀o',o=some o'->o'.new=none)->out.new=none:=fun h1 h2=>h2 _ h1;unfold doOp at h;split at h
 all_goals first|(simp[lI]at hk;done)|(simp only[lI]at hk;split at hk<;>omega)|skip
 all_goals (repeat' split at h)
 all_goals first|(cases h;done)|(cases h;rfl)|(simp only[fG3]at h;obtain⟨_,_,rfl⟩:=h;rfl)|skip
def tX {s:Hp} {out:Out} (h:out.new=none):List.range' s.n ((out.apply s).n-s.n)=[]:=by
 unfold Out.apply;rw[h];simp
end
end Go.P
namespace Go.P
open Go.Sim (AV AO Hp mQ upd St IC IX Ex iV CK Wf Out doOp mO Foot foot exec runOps fO wanted put iT)
variable {a lim:Nat} {before:aA Nat} {fs:aA Foot} {os:aA Sim.Op1} {σ τ:St}
section
variable {T:mO} {N:FuncId->Bool} {dr:Nat}
def Xc {k} {xs} {s} {out} (hc:kF k=false) (hd:doOp (Sim.look s.h) lim s.n k xs=some out):
  pK (lI N dr k) {foot T k xs with al:=List.range' s.n ((out.apply s).n-s.n)}:=by
 have d:lI N dr k<=1->List.range' s.n ((out.apply s).n-s.n)=[]:=fun h=>tX (uJ1 hd h);cases k
 case len kd=>
  cases hk:Nat.beq kd 2 with
  |true=>
   have hl:=d (by simp[lI,hk]);rw[hl,show lI N dr (.len kd)=1 by simp[lI,hk]];refine .inr ⟨?_,rfl,?_⟩<;>(rcases xs with _|⟨a,_|⟨b,t⟩⟩<;>rfl)
  |false=>
   have h0:=d (by simp[lI,hk]);refine .inl ?_;rw[h0];rcases xs with _|⟨a,_|⟨b,t⟩⟩<;>simp[foot,hk]
 all_goals first|(simp[kF]at hc;done)|skip
 all_goals first
  |exact .inr trivial
  |(refine .inr ?_;rcases xs with _|⟨a,_|⟨b,_|⟨c,t⟩⟩⟩<;>rfl)
  |(have h0:=d (gU3 1);refine .inl ?_;rw[h0];rfl)
  |(have h0:=d (fI3 1);refine .inr ⟨?_,h0,?_⟩<;>(rcases xs with _|⟨a,_|⟨b,_|⟨c,t⟩⟩⟩<;>rfl))
  |exact .inr ⟨rfl,rfl,rfl⟩
def uO {c} (h:c=3\/c=4) (f:Foot) (hf:f={all:=1,x:=true}):pK c f:=by
 subst hf;rcases h with rfl|rfl;exact .inr rfl;exact .inr trivial
def Tr.feet (a:dr≠0) {os} {σ τ} {fs} (h:Tr T N dr lim os σ fs τ):fs.length=os.length/\∀(i:Nat) (o:Sim.Op1) (f:Foot),os[i]? =some o->fs[i]? =some f->pK (lI N dr o.k) f:=by
 induction h with
 |nil=>exact⟨rfl,fun i o f h=>by simp at h⟩
 |skip hw h ih=>
  refine⟨by simp[ih.1],fun i o f h1 h2=>?_⟩;cases i with
  |zero=>simp at h1 h2;subst h1;subst h2;exact .inl rfl
  |succ i=>simp at h1 h2;exact ih.2 i o f h1 h2
 |op hw he hc hd h ih=>
  refine⟨by simp[ih.1],fun i o f h1 h2=>?_⟩;cases i with
  |zero=>simp at h1 h2;subst h1;subst h2;exact Xc hc hd
  |succ i=>simp at h1 h2;exact ih.2 i o f h1 h2
 |@call o os σ τ fs xs v hw he hc hk hf hs h ih=>
  refine⟨by simp[ih.1],fun i o' f h1 h2=>?_⟩;cases i with
  |zero=>
   simp at h1 h2;subst h1;subst h2;exact uO hk _ rfl
  |succ i=>simp at h1 h2;exact ih.2 i o' f h1 h2
 |@ncall o os σ τ fs xs v s' hw he hc hf hk hs hn h ih=>
  refine⟨by simp[ih.1],fun i o' f h1 h2=>?_⟩;cases i with
  |zero=>
   simp at h1 h2;subst h1;subst h2;rw[hk a];exact .inr trivial
  |succ i=>simp at h1 h2;exact ih.2 i o' f h1 h2
 |@ycall o os σ τ fs xs v s' w hw he hc hk hf hs hn h ih=>
  refine⟨by simp[ih.1],fun i o' f h1 h2=>?_⟩;cases i with
  |zero=>
   simp at h1 h2;subst h1;subst h2;rcases hk with hk|⟨hk,rfl⟩
   rw[hk];exact .inr ⟨rfl,rfl,rfl⟩;rw[hk];exact .inr ⟨rfl,rfl,rfl,rfl⟩
  |succ i=>simp at h1 h2;exact ih.2 i o' f h1 h2
def kD {f g} (h:Sim.compat0 f g=true):Sim.compat f g=true:=by simp[Sim.compat,h]
def Lj (ks before:aA Nat):Bool:=
 (List.range ks.length).all fun j=>(List.range j).all fun i=>(before.getD j 0).testBit i||sA (ks.getD i 4) (ks.getD j 4)
def wF {mask} {ft}:∀{j},(∀i,i<j->mask.testBit i=true\/(ft i).al=[])->Sim.unseen mask j (iT ft j)=[]
 |0,_=>rfl
 |j+1,h=>by
  simp only[iT,Sim.unseen,iK3]
  rw[wF (fun i hi=>h i (by omega))]
  rcases h j (by omega)with h1|h1
  rw[fJ3 h1];rfl
  rw[h1];simp
def yD {mask} {f} {ft}:∀{j},(∀i,i<j->mask.testBit i=true\/Sim.compat (ft i) f=true)->Sim.drawOK.okAgainst mask f (iT ft j) j=true
 |0,_=>rfl
 |j+1,h=>by
  simp only[iT,Sim.drawOK.okAgainst,iK3,fF3,fW3]
  exact⟨h j (by omega),yD (fun i hi=>h i (by omega))⟩
def Ai {before} {ft}:∀{m},(∀j,j<m->∀i,i<j->(before.getD j 0).testBit i=true\/Sim.compat (ft i) (ft j)=true)->Sim.drawOK before (iT ft m) m=true
 |0,_=>rfl
 |m+1,h=>by
  simp only[iT,Sim.drawOK,iK3,fF3]
  exact⟨yD (h m (by omega)),Ai (fun j a=>h j (by omega))⟩
def fW1 {ft}:∀{j},(∀i,i<j->(ft i).all=0\/(ft i).x=true)->Sim.nbF (iT ft j)=true
 |0,_=>rfl
 |j+1,h=>by
  have ih:=fW1 (j:=j) fun i hi=>h i (by omega)
  unfold Sim.nbF at ih ⊢
  rw[iT,hA3,ih,Bool.and_true]
  rcases h j (by omega)with h1|h1
  rw[h1];rfl
  rw[h1];simp
def fX1 (h:aA mQ):Sim.hide [] h=h:=rfl
def Xe {k k'} {f} (hf:pK k f) (b:k'=3\/k'=4\/7<=k') (hk:k<=8) (h:sA k k'=true):f.al=[]:=by
 have a:k=0\/k=1\/k=3:=by
  unfold sA Li kG at h;by_cases h0:k=0;exact .inl h0;have h1:k'≠0:=by omega
  rw[bJ,gJ3 h0,fZ3,bJ,gJ3 h1,fZ3]at h;simp only[Bool.false_or,fW3,fF3,iO3,bJ,fO3,fX3,Bool.and_eq_false_iff,gO3,hN3]at h;omega
 rcases hf with hf|hf;rw[hf]
 grind
def Tr.foot (J:dr≠0) {before ks:aA Nat}:∀{os:aA Sim.Op1} {σ τ:St} {fs:aA Foot},Tr T N dr lim os σ fs τ->∀(j:Nat) (ft:Nat->Foot),
  (∀(i:Nat),i<fs.length->fs[i]? =some (ft (j+i)))->(∀(i:Nat) (o:Sim.Op1),os[i]? =some o->ks[j+i]? =some (lI N dr o.k))->
  (∀(i l k k':Nat),i<l->ks[i]? =some k->ks[l]? =some k'->k'=3\/k'=4\/7<=k'->(before.getD l 0).testBit i=true\/sA k k'=true)->(∀i k,i<j->ks[i]? =some k->pK k (ft i))->(∀i,i<j->∃k,ks[i]? =some k/\k<=8)->(5<=dr->∀(i k:Nat),ks[i]? =some k->k≠4)->
  ∃D,∀d,D<=d->fO T (exec T d) lim before os j (iT ft j) σ=some (τ,iT ft (j+os.length)):=by
 intro os σ τ fs h
 induction h with
 |nil=>intro j ft _ _ _ _ _ _;exact⟨0,fun d _=>rfl⟩
 |@skip o os σ τ fs hw h ih=>
  intro j ft h1 h2 r p q g;have m:ft j={}:=by have:=h1 0 (by simp);simpa using this.symm
  obtain⟨D,B⟩:=ih (j+1) ft (fun i hi=>by have:=h1 (i+1) (by simp;omega);simpa[gY3,hV3 1 i]using this) (fun i o C=>by have:=h2 (i+1) o (by simpa using C);simpa[gY3,hV3 1 i]using this) r
   (fun i k hi hk=>by
    by_cases e:i=j;subst e;rw[m];exact .inl rfl;exact p i k (by omega) hk)
   (fun i hi=>by
    by_cases e:i=j;subst e;exact⟨_,by have:=h2 0 o rfl;simpa using this,qN _ _ _⟩;exact q i (by omega)) g
  refine⟨D,fun d hd=>?_⟩;simp only[fO,hw];have:=B d hd;rw[iT,m]at this;rw[gR3,show j+(os.length+1)=j+1+os.length by omega];exact this
 |@op o os σ τ fs xs out hw he hc hd h ih=>
  intro j ft h1 h2 r p q g;have m:ft j={Sim.foot T o.k xs with al:=List.range' σ.s.n ((out.apply σ.s).n-σ.s.n)}:=by have:=h1 0 (by simp);simpa using this.symm
  obtain⟨D,B⟩:=ih (j+1) ft (fun i hi=>by have:=h1 (i+1) (by simp;omega);simpa[gY3,hV3 1 i]using this) (fun i o C=>by have:=h2 (i+1) o (by simpa using C);simpa[gY3,hV3 1 i]using this) r
   (fun i k hi hk=>by
    by_cases e:i=j;subst e;have:=h2 0 o rfl;rw[hP3,hk]at this;cases this;rw[m];exact Xc hc hd;exact p i k (by omega) hk)
   (fun i hi=>by
    by_cases e:i=j;subst e;exact⟨_,by have:=h2 0 o rfl;simpa using this,qN _ _ _⟩;exact q i (by omega)) g
  have M:(Sim.foot T o.k xs).all=0:=by
   cases hk:o.k<;>simp[hk,kF]at hc<;>(rcases xs with _|⟨a,_|⟨b,_|⟨c,t⟩⟩⟩<;>rfl)
  have H:¬(Sim.foot T o.k xs).all=1:=by omega
  have E:¬(Sim.foot T o.k xs).all=3:=by omega
  refine⟨D,fun d O=>?_⟩;simp only[fO,hw,gF3,he];rw[fM3 H,fM3 E,Xa hc hd];simp only;have:=B d O;rw[iT,m]at this;rw[gR3,show j+(os.length+1)=j+1+os.length by omega];exact this
 |@ncall o os σ τ fs xs v s' hw he hc hf hk hs hn h ih=>
  intro j ft h1 h2 r p q g;have m:ft j={Sim.foot T o.k xs with al:=List.range' σ.s.n (s'.n-σ.s.n)}:=by have:=h1 0 (by simp);simpa using this.symm
  obtain⟨D,B⟩:=ih (j+1) ft (fun i hi=>by have:=h1 (i+1) (by simp;omega);simpa[gY3,hV3 1 i]using this) (fun i o C=>by have:=h2 (i+1) o (by simpa using C);simpa[gY3,hV3 1 i]using this) r
   (fun i k hi y=>by
    by_cases e:i=j;subst e;have:=h2 0 o rfl;rw[hP3,y]at this;cases this;rw[m,hk J];exact .inr trivial;exact p i k (by omega) y)
   (fun i hi=>by
    by_cases e:i=j;subst e;exact⟨_,by have:=h2 0 o rfl;simpa using this,qN _ _ _⟩;exact q i (by omega)) g
  obtain⟨D2,u⟩:=hs;refine⟨max D D2,fun d hd=>?_⟩;simp only[fO,hw,gF3,he];have K:=hf.resolve_right J;rw[fM3 (by rw[K];omega),fM3 (by rw[K];omega),u d (by omega)];simp only;have:=B d (by omega);rw[iT,m]at this;rw[gR3,show j+(os.length+1)=j+1+os.length by omega];exact this
 |@call o os σ τ fs xs v hw he hc hk3 hf hs h ih=>
  intro j ft h1 h2 r p q g;have m:ft j={all:=1,x:=true}:=by have:=h1 0 (by simp);simpa using this.symm
  have A:ks[j]? =some (lI N dr o.k):=by
   have:=h2 0 o rfl;simpa using this
  obtain⟨D,B⟩:=ih (j+1) ft (fun i hi=>by have:=h1 (i+1) (by simp;omega);simpa[gY3,hV3 1 i]using this) (fun i o C=>by have:=h2 (i+1) o (by simpa using C);simpa[gY3,hV3 1 i]using this) r
   (fun i k hi hk=>by
    by_cases e:i=j;subst e;rw[A]at hk;cases hk;rw[m];exact uO hk3 _ rfl;exact p i k (by omega) hk)
   (fun i hi=>by
    by_cases e:i=j;subst e;exact⟨_,A,qN _ _ _⟩;exact q i (by omega)) g
  obtain⟨D2,u⟩:=hs
  have G:Sim.unseen (before.getD j 0) j (iT ft j)=[]:=by
   refine wF (fun i hi=>?_);obtain⟨k,hk,F⟩:=q i hi;rcases r i j k _ hi hk A (by omega)with g|g;exact .inl g;exact .inr (Xe (p i k hi hk) (by omega) F g)
  refine⟨max D D2,fun d hd=>?_⟩;simp only[fO,hw,gF3,he];rw[fJ3 (by rw[hf]),G,fX1,u d (by omega) _];simp only;have:=B d (by omega);rw[iT,m]at this;rw[hf,gR3,show j+(os.length+1)=j+1+os.length by omega];exact this
 |@ycall o os σ τ fs xs v s' w hw he hc hk hf hs hn h ih=>
  intro j ft h1 h2 r p q g;have m:ft j={wr:=w,al:=List.range' σ.s.n (s'.n-σ.s.n),all:=1,x:=true}:=by have:=h1 0 (by simp);simpa using this.symm
  obtain⟨D,B⟩:=ih (j+1) ft (fun i hi=>by have:=h1 (i+1) (by simp;omega);simpa[gY3,hV3 1 i]using this) (fun i o C=>by have:=h2 (i+1) o (by simpa using C);simpa[gY3,hV3 1 i]using this) r
   (fun i k hi y=>by
    by_cases e:i=j;subst e;have:=h2 0 o rfl;rw[hP3,y]at this;cases this;rw[m];rcases hk with hk|⟨hk,rfl⟩
    rw[hk];exact .inr ⟨rfl,rfl,rfl⟩;rw[hk];exact .inr ⟨rfl,rfl,rfl,rfl⟩;exact p i k (by omega) y)
   (fun i hi=>by
    by_cases e:i=j;subst e;exact⟨_,by have:=h2 0 o rfl;simpa using this,qN _ _ _⟩;exact q i (by omega)) g
  obtain⟨D2,u⟩:=hs
  have A:ks[j]? =some (lI N dr o.k):=by
   have:=h2 0 o rfl;simpa using this
  have G:Sim.unseen (before.getD j 0) j (iT ft j)=[]:=by
   refine wF (fun i hi=>?_);obtain⟨k,z,F⟩:=q i hi;have f:7<=lI N dr o.k:=by rcases hk with hk|⟨hk,_⟩<;>omega
   rcases r i j k _ hi z A (.inr (.inr f))with g|g;exact .inl g;exact .inr (Xe (p i k hi z) (.inr (.inr f)) F g)
  have L:=g (gH3 (by omega) (Xb (hk.imp id And.left)))
  have R:Sim.nbF (iT ft j)=true:=fW1 fun i hi=>by
   obtain⟨k,z,P⟩:=q i hi;have S:=L i k z;rcases p i k hi z with f|f;exact .inl (by rw[f])
   match k,P,S,f with
   |0,_,_,f=>exact .inl (by rw[f])
   |1,_,_,f=>exact .inl f.2.2
   |2,_,_,f=>exact .inl f.2.2
   |3,_,_,f=>exact .inr (by rw[f])
   |4,_,S,_=>exact absurd rfl S
   |5,_,_,f=>exact .inl f
   |6,_,_,f=>exact .inl f
   |7,_,_,f=>exact .inr f.2.2
   |8,_,_,f=>exact .inr f.2.2.2
  refine⟨max D D2,fun d hd=>?_⟩;simp only[fO,hw,gF3,he];rw[fM3 (by rw[hf];omega),fJ3 hf,R,G,u d (by omega)];simp only;have:=B d (by omega);rw[iT,m]at this;rw[gR3,show j+(os.length+1)=j+1+os.length by omega];exact this
def Qe {ks before} (h:Lj ks before=true):∀i l k k',i<l->ks[i]? =some k->ks[l]? =some k'->(before.getD l 0).testBit i=true\/sA k k'=true:=by
 intro i l k k' a hi hl;simp only[Lj,fH3,List.mem_range,fW3]at h;have:=h l (fE3.1 hl).1 i a;simpa[List.getD,hi,hl]using this
def fY1 (ks:aA Nat):Bool:=ks.all fun k=> !(Nat.beq k 4)
def Aj {ks} (h:fY1 ks=true):∀(i k:Nat),ks[i]? =some k->k≠4:=fun i k hk=>by
 have:=fH3.1 h k (fL3 hk)
 exact fun e=>by subst e;simp at this
def Tr.draw (e:dr≠0) (h:Tr T N dr lim os σ fs τ) (p:Lj (os.map fun o=>lI N dr o.k) before=true) (g:5<=dr->fY1 (os.map fun o=>lI N dr o.k)=true):
  ∃D,∀d,D<=d->∃f,fO T (exec T d) lim before os 0 [] σ=some (τ,f)/\Sim.drawOK before f f.length=true:=by
 let ft:Nat->Foot:=fun i=>fs.getD i {}
 have b:∀i,i<fs.length->fs[i]? =some (ft i):=fun i hi=>by simp[ft,hi]
 obtain⟨hl,a⟩:=h.feet e;have sp:=Qe p;have c:∀(i:Nat) (o:Sim.Op1),os[i]? =some o->(os.map fun o=>lI N dr o.k)[i]? =some (lI N dr o.k):=fun i o n=>by simp[n]
 obtain⟨D,s⟩:=Tr.foot e (before:=before) (ks:=os.map fun o=>lI N dr o.k) h 0 ft (fun i hi=>by rw[hD3];exact b i hi) (fun i o n=>by rw[hD3];exact c i o n)
  (fun i l k k' m h1 h2 _=>sp i l k k' m h1 h2) (fun i k hi=>by omega) (fun i hi=>by omega) (fun r=>Aj (g r))
 refine⟨D,fun d hd=>⟨_,s d hd,?_⟩⟩;rw[hD3,Sim.revF_length];refine Ai (fun j t i hi=>?_);have q:os[j]? =some os[j]:=by simp
 have oi:os[i]? =some (os[i]'(by omega)):=by simp
 rcases sp i j _ _ hi (c i _ oi) (c j _ q)with h1|h1;exact .inl h1;right;exact Jj (qN _ _ _) (qN _ _ _) h1 (a i _ _ oi (b i (by omega))) (a j _ _ q (b j (by omega)))
def Up (o:Sim.Op1) (a:Nat):Bool:=match o.k,o.xs with
 |.loadS,[.t b]=>Nat.beq b a
 |.loadA _,[.t b]=>Nat.beq b a
 |.slc ..,.t b::_=>Nat.beq b a
 |_,_=>false
def tkM (o:Sim.Op1):Bool:=match o.k with
 |.buildSl .. |.append .. =>true
 |_=>false
def tkW (o:Sim.Op1) (a:Nat):Bool:=match o.k,o.xs with
 |.store _,[.t b,_]=>Nat.beq b a
 |.mapup ..,[.t b,_,_]=>Nat.beq b a
 |_,_=>false
def Xf (o:Sim.Op1) (a:Nat):Bool:=match o.k,o.dst with
 |.buildSl ..,some d=>Nat.beq d a
 |.append ..,some d=>Nat.beq d a
 |_,_=>false
def sQ (a:Nat) (o:Sim.Op1):Bool:=match o.dst with
 |some d=> !Nat.beq d a
 |none=>true
def fZ1 (o:Sim.Op1) (d:Nat):aB Nat:=match o.k,o.xs,o.dst,o.guard with
 |.append ..,.t b::_,some d',none=>if Nat.beq b d=true then some d' else none
 |_,_,_,_=>none
def vM:aA Sim.Op1->Nat->Nat->Bool
 |[],d,a=>Nat.beq d a
 |o::os,d,a=>(sQ d o&&vM os d a)||(match fZ1 o d with|some d'=>vM os d' a|none=>false)
def tkL (os:aA Sim.Op1) (o:Sim.Op1) (i a:Nat):Bool:=match o.dst with
 |some d=>Xf o d&&vM (os.drop (i+1)) d a
 |none=>false
def tkS (o:Sim.Op1) (a:Nat):Bool:=match o.k,o.dst with
 |.slc ..,some d=>Nat.beq d a
 |_,_=>false
def Xg (os:aA Sim.Op1) (p:Nat×Nat×Nat×Nat):Bool:=match os[p.1]?,os[p.2.1]? with
 |some o,some q=>kF o.k&&(Up q p.2.2.2&&(os.drop p.2.1).all (sQ p.2.2.2))
 |_,_=>false
def Xh (os:aA Sim.Op1) (p:Nat×Nat×Nat×Nat):Bool:=match os[p.1]?,os[p.2.1]? with
 |some o,some q=>((os.drop p.2.1).all (sQ p.2.2.2)&&((Up o p.2.2.1&&(os.drop p.1).all (sQ p.2.2.1)&&tkW q p.2.2.2)||(Xf o p.2.2.1&&(os.drop (p.1+1)).all (sQ p.2.2.1)&&Up q p.2.2.2)||(Nat.beq p.2.2.1 p.2.2.2&&tkM o&&Up q p.2.2.2)||(tkL os o p.1 p.2.2.1&&Up q p.2.2.2)))||(Up o p.2.2.1&&(os.drop p.1).all (sQ p.2.2.1)&&(Xf q p.2.2.2&&(os.drop (p.2.1+1)).all (sQ p.2.2.2)))||(tkS o p.2.2.1&&(os.drop (p.1+1)).all (sQ p.2.2.1)&&(tkW q p.2.2.2&&(os.drop p.2.1).all (sQ p.2.2.2)))
 |_,_=>false
def aP1 (os:aA Sim.Op1) (p:Nat×Nat×Nat×Nat):Bool:=bif Nat.beq p.2.2.1 999999 then Xg os p else Xh os p
def Xi (ks before:aA Nat) (ex:aA (Nat×Nat×Nat×Nat)):Bool:=
 (List.range ks.length).all fun j=>(List.range j).all fun i=>(before.getD j 0).testBit i||sA (ks.getD i 4) (ks.getD j 4)||ex.any fun p=>Nat.beq p.1 i&&Nat.beq p.2.1 j
def nZ {t} {o} {a} {v} (h:sQ a o=true):(put t o.dst v)[a]? =t[a]? :=by
 unfold sQ at h;unfold put;split;rename_i d hd;rw[hd]at h;simp only[fX3,bJ,gO3]at h;rw[fU3 h];rfl
def Tr.keep {os} {σ τ} {fs} (h:Tr T N dr lim os σ fs τ) {a} (b:os.all (sQ a)=true):τ.t[a]? =σ.t[a]? :=by
 induction h with
 |nil=>rfl
 |skip hw h ih=>simp only[hA3,fF3]at b;rw[ih b.2,nZ b.1]
 |op hw he hc hd h ih=>simp only[hA3,fF3]at b;rw[ih b.2,nZ b.1]
 |call hw he hc hk hf hs h ih=>simp only[hA3,fF3]at b;rw[ih b.2,nZ b.1]
 |ncall hw he hc hf hk hs hn h ih=>simp only[hA3,fF3]at b;rw[ih b.2,nZ b.1]
 |ycall hw he hc hk hf hs hn h ih=>simp only[hA3,fF3]at b;rw[ih b.2,nZ b.1]
def cH2 {L} {n} {o} {a} {xs} {out} (hk:tkW o a=true) (h:doOp L lim n o.k xs=some out):out.new=none:=by
 unfold tkW at hk;split at hk
 .rename_i h1 h2
  rw[h1]at h;unfold doOp at h
  repeat' split at h
  all_goals first|(cases h;done)|(cases h;rfl)|simp_all
 .rename_i h1 h2
  rw[h1]at h;unfold doOp at h
  repeat' split at h
  all_goals first|(cases h;done)|(cases h;rfl)|simp_all
 .cases hk
def aQ1 {t} {b} {r} {xs} (h:Sim.evs t (.t b::r)=some xs):∃y ys,xs=y::ys/\t[b]? =some y/\Sim.evs t r=some ys:=by
 simp only[Sim.evs,Sim.IX.ev]at h;split at h
 grind
 cases h
def uP {s:Hp} {out:Out} {x:AO} (h:out.new=some x):List.range' s.n ((out.apply s).n-s.n)=[s.n]:=by
 have:(out.apply s).n=s.n+1:=by unfold Out.apply;rw[h]
 rw[this,Nat.add_sub_cancel_left];rfl
def gB1 (f:Foot) (τ:St) (a:Nat):Prop:=f={}\/∀y,τ.t[a]? =some y->f.rd=Sim.idOf y/\f.wr=[]/\f.al=[]/\f.all=0
def cI2 (f:Foot) (τ:St) (a:Nat):Prop:=f={}\/∀y,τ.t[a]? =some y->f.wr=Sim.idOf y/\f.rd=[]/\f.al=[]/\f.all=0
def mT1 (f:Foot) (τ:St) (a:Nat):Prop:=f={}\/∀y,τ.t[a]? =some y->f.all=0/\(∀x∈f.wr,x∈Sim.idOf y)/\∀x∈f.al,x∈Sim.idOf y
def Uq {L} {n ty esz} {s} {new} {out} (h:Sim.appendTo L lim n ty esz s new=some out):
  (∀x∈Sim.idOf s,x∈Sim.idOf out.v)/\(out.new=none\/Sim.idOf out.v=[n]):=by
 unfold Sim.appendTo at h
 repeat' split at h
 all_goals first|(cases h;done)|(cases h;exact⟨fun x a=>a,.inl rfl⟩)|(cases h;exact⟨fun x a=>by simp[Sim.idOf]at a,.inr rfl⟩)
def Lk {L} {n} {o} {a} {xs} {out} (hk:Xf o a=true) (h:doOp L lim n o.k xs=some out):
  (foot T o.k xs).all=0/\(∀x∈(foot T o.k xs).wr,x∈Sim.idOf out.v)/\(out.new=none\/Sim.idOf out.v=[n])/\o.dst=some a:=by
 unfold Xf at hk;split at hk;rename_i d h1 h2;rw[h1]at h ⊢;rw[h2,fY3 hk];refine⟨by rcases xs with _|⟨p,_|⟨q,_|⟨r,t⟩⟩⟩<;>rfl,fun x e=>by rcases xs with _|⟨p,_|⟨q,_|⟨r,t⟩⟩⟩<;>simp[foot]at e,.inr ?_,rfl⟩;unfold doOp at h;simp only[fG3]at h;obtain⟨cs,_,rfl⟩:=h;rfl;rename_i d h1 h2;rw[h1]at h ⊢;rcases xs with _|⟨p,_|⟨q,_|⟨r,t⟩⟩⟩
 simp[doOp]at h;simp[doOp]at h;simp only[doOp]at h;split at h;split at h;rename_i o' c;have:=Uq c;have b:out=o':=by grind
 subst b;exact⟨rfl,this.1,this.2,by rw[h2,fY3 hk]⟩;cases h;cases h;simp[doOp]at h;cases hk
def xJ1 {o:Sim.Op1} {xs:aA AV} (hk:Up o a=true) (he:Sim.evs σ.t o.xs=some xs):∃y,σ.t[a]? =some y/\foot T o.k xs={rd:=Sim.idOf y}/\lI N dr o.k<=1:=by
 unfold Up at hk;split at hk;rename_i b h1 h2;rw[h2]at he;obtain⟨y,ys,rfl,d,c⟩:=aQ1 he;simp only[Sim.evs,fN3]at c;subst c;rw[h1,<-fY3 hk];exact⟨y,d,rfl,by simp[lI]⟩;rename_i b h1 h2;rw[h2]at he;obtain⟨y,ys,rfl,d,c⟩:=aQ1 he;simp only[Sim.evs,fN3]at c;subst c;rw[h1,<-fY3 hk];exact⟨y,d,rfl,by simp[lI]⟩;rename_i b _ h1 h2;rw[h2]at he;obtain⟨y,ys,rfl,d,c⟩:=aQ1 he;rw[h1,<-fY3 hk];exact⟨y,d,rfl,by simp[lI]⟩;cases hk
def xK1 {o:Sim.Op1} {xs:aA AV} (hk:tkW o a=true) (he:Sim.evs σ.t o.xs=some xs):∃y,σ.t[a]? =some y/\foot T o.k xs={wr:=Sim.idOf y}:=by
 unfold tkW at hk;split at hk;rename_i b c h1 h2;rw[h2]at he;obtain⟨y,ys,rfl,e,f⟩:=aQ1 he;rw[h1,<-fY3 hk];exact⟨y,e,rfl⟩;rename_i b c d h1 h2;rw[h2]at he;obtain⟨y,ys,rfl,e,f⟩:=aQ1 he;rw[h1,<-fY3 hk];exact⟨y,e,rfl⟩;cases hk
def nN {o} {a} (h:Up o a=true\/tkW o a=true\/Xf o a=true):kF o.k=false/\∀xs,(foot T o.k xs).all=0:=by
 have key:∀k:iV,(k=.loadS\/(∃n,k=.loadA n)\/(∃n,k=.store n)\/(∃a b,k=.mapup a b)\/(∃a b c d e,k=.buildSl a b c d e)\/(∃a b c d e,k=.append a b c d e)\/∃a b c d,k=.slc a b c d)->kF k=false/\∀xs,(foot T k xs).all=0:=by
  intro k hk
  rcases hk with rfl|⟨_,rfl⟩|⟨_,rfl⟩|⟨_,_,rfl⟩|⟨_,_,_,_,_,rfl⟩|⟨_,_,_,_,_,rfl⟩|⟨_,_,_,_,rfl⟩<;>
   exact⟨rfl,fun xs=>by rcases xs with _|⟨p,_|⟨q,_|⟨r,t⟩⟩⟩<;>rfl⟩
 refine key _ ?_;rcases h with h|h|h;unfold Up at h;split at h
 grind
 grind
 grind
 cases h;unfold tkW at h;split at h
 grind
 grind
 cases h;unfold Xf at h;split at h
 grind
 grind
 cases h
def Tr.touch (h:Tr T N dr lim os σ fs τ):∀i o f a,os[i]? =some o->fs[i]? =some f->
  (Up o a=true->(os.drop i).all (sQ a)=true->gB1 f τ a)/\(tkW o a=true->(os.drop i).all (sQ a)=true->cI2 f τ a)/\(Xf o a=true->(os.drop (i+1)).all (sQ a)=true->mT1 f τ a):=by
 induction h with
 |nil=>intro i o f a h;simp at h
 |skip hw h ih=>
  intro i o f a h1 h2;cases i with
  |zero=>simp at h1 h2;subst h1;subst h2;exact⟨fun _ _=>.inl rfl,fun _ _=>.inl rfl,fun _ _=>.inl rfl⟩
  |succ i=>simp at h1 h2;simpa using ih i o f a h1 h2
 |@op o os σ τ fs xs out hw he hc hd h ih=>
  intro i o' f a h1 h2;cases i with
  |zero=>
   simp at h1 h2;subst h1;subst h2;refine⟨fun hk hb=>?_,fun hk hb=>?_,fun hk hb=>?_⟩;simp only[hE3,hA3,fF3]at hb;obtain⟨y,k,d,e⟩:=xJ1 (T:=T) (N:=N) (dr:=dr) hk he;refine .inr (fun z b=>?_);rw[h.keep hb.2,nZ hb.1,k]at b;cases b;exact⟨by rw[d],by rw[d],tX (uJ1 hd e),by rw[d]⟩;simp only[hE3,hA3,fF3]at hb;obtain⟨y,k,d⟩:=xK1 (T:=T) hk he;refine .inr (fun z b=>?_);rw[h.keep hb.2,nZ hb.1,k]at b;cases b;exact⟨by rw[d],by rw[d],tX (cH2 hk hd),by rw[d]⟩;obtain⟨k,d,e,l⟩:=Lk (T:=T) hk hd;have hb:os.all (sQ a)=true:=by simpa using hb
   have j:∀z,(put σ.t o.dst out.v)[a]? =some z->z=out.v:=fun z b=>by
    rw[l]at b;simp only[put,gE3]at b;split at b
    grind
    grind
   refine .inr (fun z b=>?_);rw[h.keep hb]at b;have:=j z b;subst this;refine⟨k,d,fun x c=>?_⟩;rcases e with e|e;have:=tX (s:=σ.s) e;simp only at c;rw[this]at c;simp at c;cases hn:out.new with
   |none=>
    have:=tX (s:=σ.s) hn;simp only at c;rw[this]at c;simp at c
   |some w=>
    simp only at c;rw[uP hn]at c;rw[e];exact c
  |succ i=>simp at h1 h2;simpa using ih i o' f a h1 h2
 |@call o os σ τ fs xs v hw he hc hk hf hs h ih=>
  intro i o' f a h1 h2;cases i with
  |zero=>
   simp at h1 h2;subst h1;subst h2;have no:¬(Up o a=true\/tkW o a=true\/Xf o a=true):=fun g=>by have:=(nN (T:=T) g).1;rw[hc]at this;cases this
   exact⟨fun hk _=>absurd (.inl hk) no,fun hk _=>absurd (.inr (.inl hk)) no,fun hk _=>absurd (.inr (.inr hk)) no⟩
  |succ i=>simp at h1 h2;simpa using ih i o' f a h1 h2
 |@ncall o os σ τ fs xs v s' hw he hc hf hk hs hn h ih=>
  intro i o' f a h1 h2;cases i with
  |zero=>
   simp at h1 h2;subst h1;subst h2;have no:¬(Up o a=true\/tkW o a=true\/Xf o a=true):=fun g=>by have:=(nN (T:=T) g).1;rw[hc]at this;cases this
   exact⟨fun hk _=>absurd (.inl hk) no,fun hk _=>absurd (.inr (.inl hk)) no,fun hk _=>absurd (.inr (.inr hk)) no⟩
  |succ i=>simp at h1 h2;simpa using ih i o' f a h1 h2
 |@ycall o os σ τ fs xs v s' w hw he hc hk hf hs hn h ih=>
  intro i o' f a h1 h2;cases i with
  |zero=>
   simp at h1 h2;subst h1;subst h2;have no:¬(Up o a=true\/tkW o a=true\/Xf o a=true):=fun g=>by have:=(nN (T:=T) g).1;rw[hc]at this;cases this
   exact⟨fun hk _=>absurd (.inl hk) no,fun hk _=>absurd (.inr (.inl hk)) no,fun hk _=>absurd (.inr (.inr hk)) no⟩
  |succ i=>simp at h1 h2;simpa using ih i o' f a h1 h2
def mU1 {L} {n} {e} {lo hi mx} {xs} {out} (h:doOp L lim n (.slc e lo hi mx) xs=some out):∃y,foot T (.slc e lo hi mx) xs={rd:=Sim.idOf y}/\Sim.idOf out.v=Sim.idOf y/\out.new=none:=by
 cases xs with
 |nil=>simp[doOp,Sim.sliceOp]at h
 |cons y ys=>
  refine⟨y,rfl,?_⟩;have h2:(Sim.sliceOp L e lo hi mx (y::ys)).map (fun v=>({v:=v}:Out))=some out:=h;clear h;rw[fG3]at h2;obtain⟨v,a,rfl⟩:=h2;refine⟨?_,rfl⟩;cases y<;>simp only[Sim.sliceOp]at a<;>(repeat' split at a)<;>first|(cases a;done)|(cases a;rfl)|(simp at a;done)|(simp at a;subst a;simp_all[Sim.idOf])
def Tr.touchS {os} {σ τ} {fs} (h:Tr T N dr lim os σ fs τ):∀i o f a,os[i]? =some o->fs[i]? =some f->tkS o a=true->(os.drop (i+1)).all (sQ a)=true->gB1 f τ a:=by
 induction h with
 |nil=>intro i o f a h;simp at h
 |skip hw h ih=>
  intro i o f a h1 h2 hk hb;cases i with
  |zero=>simp at h1 h2;subst h1;subst h2;exact .inl rfl
  |succ i=>simp at h1 h2;exact ih i o f a h1 h2 hk (by simpa using hb)
 |@op o os σ τ fs xs out hw he hc hd h ih=>
  intro i o' f a h1 h2 hk hb;cases i with
  |zero=>
   simp at h1 h2;subst h1;subst h2;unfold tkS at hk;split at hk;rename_i d q1 q2;rw[q1]at hd;obtain⟨y,e,g,j⟩:=mU1 (T:=T) hd;have hb:os.all (sQ a)=true:=by simpa using hb
   have c:∀z,(put σ.t o.dst out.v)[a]? =some z->z=out.v:=fun z b=>by
    rw[q2,fY3 hk]at b;simp only[put,gE3]at b;split at b
    grind
    grind
   refine .inr (fun z b=>?_);rw[h.keep hb]at b;have:=c z b;subst this;rw[q1];exact⟨by rw[e,g],by rw[e],tX j,by rw[e]⟩;cases hk
  |succ i=>simp at h1 h2;exact ih i o' f a h1 h2 hk (by simpa using hb)
 |@call o os σ τ fs xs v hw he hc hk' hf hs h ih=>
  intro i o' f a h1 h2 hk hb;cases i with
  |zero=>
   simp at h1 h2;subst h1;subst h2;unfold tkS at hk;split at hk;rename_i d q1 q2;rw[q1]at hc;cases hc;cases hk
  |succ i=>simp at h1 h2;exact ih i o' f a h1 h2 hk (by simpa using hb)
 |@ncall o os σ τ fs xs v s' hw he hc hf hk' hs hn h ih=>
  intro i o' f a h1 h2 hk hb;cases i with
  |zero=>
   simp at h1 h2;subst h1;subst h2;unfold tkS at hk;split at hk;rename_i d q1 q2;rw[q1]at hc;cases hc;cases hk
  |succ i=>simp at h1 h2;exact ih i o' f a h1 h2 hk (by simpa using hb)
 |@ycall o os σ τ fs xs v s' w hw he hc hk' hf hs hn h ih=>
  intro i o' f a h1 h2 hk hb;cases i with
  |zero=>
   simp at h1 h2;subst h1;subst h2;unfold tkS at hk;split at hk;rename_i d q1 q2;rw[q1]at hc;cases hc;cases hk
  |succ i=>simp at h1 h2;exact ih i o' f a h1 h2 hk (by simpa using hb)
def pL {o} {d d'} (h:fZ1 o d=some d'):o.guard=none/\o.dst=some d'/\Xf o d'=true/\∃ty es b zero g r,o.k=.append ty es b zero g/\o.xs=.t d::r:=by
 unfold fZ1 at h;split at h;rename_i h1 h2 a c;split at h;rename_i hb;cases h;refine⟨c,a,?_,_,_,_,_,_,_,h1,by rw[h2,fY3 hb]⟩;unfold Xf;rw[h1,a];exact Nat.beq_refl _;cases h;cases h
def Tr.flow {os} {σ τ} {fs} (h:Tr T N dr lim os σ fs τ):∀d a,vM os d a=true->∀z,τ.t[a]? =some z->∃y,σ.t[d]? =some y/\∀x∈Sim.idOf y,x∈Sim.idOf z:=by
 induction h with
 |nil=>
  intro d a hf z c;simp only[vM]at hf;rw[fY3 hf];exact⟨z,c,fun x f=>f⟩
 |@skip o os σ τ fs hw h ih=>
  intro d a hf z c;simp only[vM,fW3,fF3]at hf;rcases hf with hf|hf;obtain⟨y,h1,h2⟩:=ih d a hf.2 z c;exact⟨y,by rw[<-h1];exact(nZ hf.1).symm,h2⟩;split at hf;rename_i e hs;rw[(pL hs).1]at hw;simp[Sim.wanted]at hw;cases hf
 |@op o os σ τ fs xs out hw he hc hd h ih=>
  intro d a hf z c;simp only[vM,fW3,fF3]at hf;rcases hf with hf|hf;obtain⟨y,h1,h2⟩:=ih d a hf.2 z c;exact⟨y,by rw[<-h1];exact(nZ hf.1).symm,h2⟩;split at hf;rename_i e hs;obtain⟨q1,q2,q3,ty,es,b,zero,g,r,q4,q5⟩:=pL hs;obtain⟨k,h1,h2⟩:=ih e a hf z c;obtain⟨l,j,m,n⟩:=Lk (T:=T) q3 hd
  have hv:k=out.v:=by
   have c:=h1;simp only at c;rw[q2]at c;simp only[put,gE3]at c;split at c
   grind
   grind
  subst hv;rw[q5]at he;obtain⟨y,ys,rfl,i,e2⟩:=aQ1 he;refine⟨y,i,fun x f=>h2 x (j x ?_)⟩;rw[q4]at hd ⊢;rcases ys with _|⟨w,_|⟨w2,ws⟩⟩
  simp[doOp]at hd;exact f;simp[doOp]at hd;cases hf
 |@call o os σ τ fs xs v hw he hc hk hff hs h ih=>
  intro d a hf z c;simp only[vM,fW3,fF3]at hf;rcases hf with hf|hf;obtain⟨y,h1,h2⟩:=ih d a hf.2 z c;exact⟨y,by rw[<-h1];exact(nZ hf.1).symm,h2⟩;split at hf;rename_i e hs;have:=(nN (T:=T) (.inr (.inr (pL hs).2.2.1))).1;rw[hc]at this;cases this;cases hf
 |@ncall o os σ τ fs xs v s' hw he hc hff hk hs hn h ih=>
  intro d a hf z c;simp only[vM,fW3,fF3]at hf;rcases hf with hf|hf;obtain⟨y,h1,h2⟩:=ih d a hf.2 z c;exact⟨y,by rw[<-h1];exact(nZ hf.1).symm,h2⟩;split at hf;rename_i e hs;have:=(nN (T:=T) (.inr (.inr (pL hs).2.2.1))).1;rw[hc]at this;cases this;cases hf
 |@ycall o os σ τ fs xs v s' w hw he hc hk hff hs hn h ih=>
  intro d a hf z c;simp only[vM,fW3,fF3]at hf;rcases hf with hf|hf;obtain⟨y,h1,h2⟩:=ih d a hf.2 z c;exact⟨y,by rw[<-h1];exact(nZ hf.1).symm,h2⟩;split at hf;rename_i e hs;have:=(nN (T:=T) (.inr (.inr (pL hs).2.2.1))).1;rw[hc]at this;cases this;cases hf
def Tr.touchL (h:Tr T N dr lim os σ fs τ):∀i o f a,os[i]? =some o->fs[i]? =some f->tkL os o i a=true->mT1 f τ a:=by
 induction h with
 |nil=>intro i o f a h;simp at h
 |skip hw h ih=>
  intro i o f a h1 h2 hk;cases i with
  |zero=>simp at h1 h2;subst h1;subst h2;exact .inl rfl
  |succ i=>simp at h1 h2;exact ih i o f a h1 h2 (by simpa[tkL]using hk)
 |@op o os σ τ fs xs out hw he hc hd h ih=>
  intro i o' f a h1 h2 hk;cases i with
  |zero=>
   simp at h1 h2;subst h1;subst h2;unfold tkL at hk;split at hk;rename_i d g;simp only[fF3,List.drop_succ_cons,hE3]at hk;obtain⟨l,m,j,p⟩:=Lk (T:=T) hk.1 hd;refine .inr (fun z e=>?_);obtain⟨y,n,k⟩:=h.flow d a hk.2 z e
   have hv:y=out.v:=by
    have e:=n;simp only at e;rw[g]at e;simp only[put,gE3]at e;split at e
    grind
    grind
   subst hv;refine⟨l,fun x c=>k x (m x c),fun x c=>k x ?_⟩;rcases j with j|j;have:=tX (s:=σ.s) j;simp only at c;rw[this]at c;simp at c;cases hn:out.new with
   |none=>
    have:=tX (s:=σ.s) hn;simp only at c;rw[this]at c;simp at c
   |some w=>
    simp only at c;rw[uP hn]at c;rw[j];exact c
   cases hk
  |succ i=>simp at h1 h2;exact ih i o' f a h1 h2 (by simpa[tkL]using hk)
 |@call o os σ τ fs xs v hw he hc hk hf hs h ih=>
  intro i o' f a h1 h2 b;cases i with
  |zero=>
   simp at h1 h2;subst h1;subst h2;unfold tkL at b;split at b;simp only[fF3]at b;have:=(nN (T:=T) (.inr (.inr b.1))).1;rw[hc]at this;cases this;cases b
  |succ i=>simp at h1 h2;exact ih i o' f a h1 h2 (by simpa[tkL]using b)
 |@ncall o os σ τ fs xs v s' hw he hc hf hk hs hn h ih=>
  intro i o' f a h1 h2 b;cases i with
  |zero=>
   simp at h1 h2;subst h1;subst h2;unfold tkL at b;split at b;simp only[fF3]at b;have:=(nN (T:=T) (.inr (.inr b.1))).1;rw[hc]at this;cases this;cases b
  |succ i=>simp at h1 h2;exact ih i o' f a h1 h2 (by simpa[tkL]using b)
 |@ycall o os σ τ fs xs v s' w hw he hc hk hf hs hn h ih=>
  intro i o' f a h1 h2 b;cases i with
  |zero=>
   simp at h1 h2;subst h1;subst h2;unfold tkL at b;split at b;simp only[fF3]at b;have:=(nN (T:=T) (.inr (.inr b.1))).1;rw[hc]at this;cases this;cases b
  |succ i=>simp at h1 h2;exact ih i o' f a h1 h2 (by simpa[tkL]using b)
def Qf (τ:St) (p:Nat×Nat×Nat×Nat):Prop:=∃y z,τ.t[p.2.2.1]? =some y/\τ.t[p.2.2.2]? =some z/\∀x∈Sim.idOf y,x∉Sim.idOf z
def nT2 (σ τ:St) (p:Nat×Nat×Nat×Nat):Prop:=∃z,τ.t[p.2.2.2]? =some z/\∀x∈Sim.idOf z,x<σ.s.n
def Tr.alge {os} {σ τ} {fs} (h:Tr T N dr lim os σ fs τ):∀f∈fs,∀x∈f.al,σ.s.n<=x:=by
 induction h with
 |nil=>intro f hf;simp at hf
 |skip hw h ih=>
  intro f hf x a;rcases fT3.1 hf with rfl|hf;simp at a;exact ih f hf x a
 |@op o os σ τ fs xs out hw he hc hd h ih=>
  intro f hf x a;rcases fT3.1 hf with rfl|hf
  grind
  have:=ih f hf x a
  have h2:σ.s.n<=(out.apply σ.s).n:=by
   unfold Out.apply;cases out.new<;>simp
  exact gH3 h2 this
 |call hw he hc hk hf hs h ih=>
  intro f hf x a;rcases fT3.1 hf with rfl|hf;simp at a;exact ih f hf x a
 |@ncall o os σ τ fs xs v s' hw he hc hf hk hs hn h ih=>
  intro f hf x a;rcases fT3.1 hf with rfl|hf
  grind
  grind
 |@ycall o os σ τ fs xs v s' w hw he hc hk hf hs hn h ih=>
  intro f hf x a;rcases fT3.1 hf with rfl|hf
  grind
  grind
def oH {f g} {τ} {p} (h:(gB1 f τ p.2.2.1/\cI2 g τ p.2.2.2)\/(mT1 f τ p.2.2.1/\gB1 g τ p.2.2.2)) (m:Qf τ p):Sim.compat0 f g=true:=by
 obtain⟨y,z,hy,l,hd⟩:=m;rcases h with⟨h1,h2⟩|⟨h1,h2⟩
 rcases h2 with rfl|h2;rcases h1 with rfl|h1;rfl;obtain⟨a,b,c,d⟩:=h1 y hy;simp[Sim.compat0,b,c,d];obtain⟨a',b',k,j⟩:=h2 z l;rcases h1 with rfl|h1;simp[Sim.compat0,j];obtain⟨a,b,c,d⟩:=h1 y hy;have:∀x∈g.wr,x∉f.rd:=fun x i e=>by rw[a]at e;rw[a']at i;exact hd x e i
 simpa[Sim.compat0,b,c,d,b',k,j]using this;rcases h2 with rfl|h2;rcases h1 with rfl|h1;rfl;obtain⟨a,b,c⟩:=h1 y hy;simp[Sim.compat0,a];obtain⟨a',b',k,j⟩:=h2 z l;rcases h1 with rfl|h1;simp[Sim.compat0,j];obtain⟨a,b,c⟩:=h1 y hy;have n:∀x∈f.wr,x∉g.rd:=fun x i e=>by rw[a']at e;exact hd x (b x i) e
 have o:∀x∈f.al,x∉g.rd:=fun x i e=>by rw[a']at e;exact hd x (c x i) e
 simpa[Sim.compat0,a,b',k,j]using And.intro n o
def aR1 {f g} {τ} {p} (h1:gB1 f τ p.2.2.1) (h2:mT1 g τ p.2.2.2) (j:Qf τ p):Sim.compat0 f g=true:=by
 obtain⟨y,z,hy,h,hd⟩:=j;rcases h1 with rfl|h1;rcases h2 with rfl|h2;rfl;obtain⟨a',b',i⟩:=h2 z h;simp[Sim.compat0,a'];obtain⟨a,b,c,d⟩:=h1 y hy;rcases h2 with rfl|h2;simp[Sim.compat0,b,c,d];obtain⟨a',b',i⟩:=h2 z h;have:∀x∈g.wr,x∉f.rd:=fun x k e=>by rw[a]at e;exact hd x e (b' x k)
 simpa[Sim.compat0,b,c,d,a']using this
def Ur {ks before} {ex} (h:Xi ks before ex=true):∀i l k k',i<l->ks[i]? =some k->ks[l]? =some k'->((before.getD l 0).testBit i=true\/sA k k'=true)\/∃p∈ex,p.1=i/\p.2.1=l:=by
 intro i l k k' a hi hl;simp only[Xi,fH3,List.mem_range,fW3,List.any_eq_true,fF3]at h;rcases h l (fE3.1 hl).1 i a with h1|⟨p,h1,h2,h3⟩
 grind
 exact .inr ⟨p,h1,fY3 h2,fY3 h3⟩
def Tr.drawX (E:dr≠0) {ex:aA (Nat×Nat×Nat×Nat)} (h:Tr T N dr lim os σ fs τ) (W:Xi (os.map fun o=>lI N dr o.k) before ex=true)
  (P:ex.all (aP1 os)=true) (g:∀p∈ex,if p.2.2.1=999999 then(5<=dr/\(os.map fun o=>lI N dr o.k)[p.1]? ≠some 7)/\nT2 σ τ p else Qf τ p) (C:5<=dr->fY1 (os.map fun o=>lI N dr o.k)=true):
  ∃D,∀d,D<=d->∃J,fO T (exec T d) lim before os 0 [] σ=some (τ,J)/\Sim.drawOK before J J.length=true:=by
 let ft:Nat->Foot:=fun i=>fs.getD i {}
 have m:∀i,i<fs.length->fs[i]? =some (ft i):=fun i hi=>by simp[ft,hi]
 obtain⟨hl,r⟩:=h.feet E;have sp:=Ur W;have t:∀(i:Nat) (o:Sim.Op1),os[i]? =some o->(os.map fun o=>lI N dr o.k)[i]? =some (lI N dr o.k):=fun i o V=>by simp[V]
 have A:∀p∈ex,∃o q,os[p.1]? =some o/\os[p.2.1]? =some q/\aP1 os p=true:=by
  intro p hp;have:=fH3.1 P p hp;have h2:=this;unfold aP1 at h2;cases hb:Nat.beq p.2.2.1 999999 with
  |true=>
   rw[hb,fS3]at h2;unfold Xg at h2;split at h2
   .rename_i o q s K;exact⟨o,q,s,K,this⟩
   .cases h2
  |false=>
   rw[hb,fZ3]at h2;unfold Xh at h2;split at h2
   .rename_i o q s K;exact⟨o,q,s,K,this⟩
   .cases h2
 obtain⟨D,hD⟩:=Tr.foot E (before:=before) (ks:=os.map fun o=>lI N dr o.k) h 0 ft (fun i hi=>by rw[hD3];exact m i hi) (fun i o V=>by rw[hD3];exact t i o V)
  (fun i l k k' R h1 h2 S=>by
   rcases sp i l k k' R h1 h2 with s|⟨p,hp,rfl,rfl⟩
   .exact s
   .exfalso
    obtain⟨o,q,u,e2,f⟩:=A p hp;rw[t _ _ e2]at h2;cases h2
    have hh:Up q p.2.2.2=true\/tkW q p.2.2.2=true\/Xf q p.2.2.2=true:=by
     unfold aP1 at f;cases hb:Nat.beq p.2.2.1 999999 with
     |true=>
      rw[hb,fS3]at f;unfold Xg at f;rw[u,e2]at f;simp only[fF3]at f;exact .inl f.2.1
     |false=>
     rw[hb,fZ3]at f;unfold Xh at f;rw[u,e2]at f;simp only[fF3,fW3]at f;rcases f with(f|f)|f
     .rcases f.2 with((h|h)|h)|h
      .exact .inr (.inl h.2)
      .exact .inl h.2
      .exact .inl h.2
      .exact .inl h.2
     .exact .inr (.inr f.2.1)
     .exact .inr (.inl f.2.1)
    have hc:=(nN (T:=T) hh).1;revert S hc;cases q.k
    case len n=>simp only[lI];cases Nat.beq n 2<;>simp
    all_goals simp[lI,kF]) (fun i k hi=>by omega) (fun i hi=>by omega) (fun L=>Aj (C L))
 refine⟨D,fun d hd=>⟨_,hD d hd,?_⟩⟩;rw[hD3,Sim.revF_length];refine Ai (fun j hj i hi=>?_);have oj:os[j]? =some os[j]:=by simp
 have oi:os[i]? =some (os[i]'(by omega)):=by simp
 rcases sp i j _ _ hi (t i _ oi) (t j _ oj)with(h1|h1)|⟨p,hp,rfl,rfl⟩
 .exact .inl h1
 .right
  exact Jj (qN _ _ _) (qN _ _ _) h1 (r i _ _ oi (m i (by omega))) (r j _ _ oj (m j (by omega)))
 .right
  obtain⟨o,q,u,e2,f⟩:=A p hp;have g:=g p hp;unfold aP1 at f;cases hb:Nat.beq p.2.2.1 999999 with
  |true=>
   rw[hb,fS3]at f;rw[fJ3 (fY3 hb)]at g;obtain⟨⟨L,M⟩,z,H,U⟩:=g;unfold Xg at f;rw[u,e2]at f;simp only[fF3]at f;obtain⟨e4,e5,e6⟩:=f;have hf:=r p.1 o _ u (m p.1 (by omega));have hg:=(h.touch p.2.1 q _ p.2.2.2 e2 (m p.2.1 (by omega))).1 e5 e6;have X:=Aj (C L) p.1 _ (t p.1 o u)
   obtain⟨f1,Z,f3⟩|hf0:((ft p.1).rd=[]/\(ft p.1).wr=[]/\(ft p.1).all=1)\/ft p.1={}:=by
    rcases fV1 (N:=N) (dr:=dr) e4 with v|v|v
    .rw [v]at hf
     rcases hf with hf|hf
     .exact .inr hf
     .have hf:ft p.1={all:=1,x:=true}:=hf
      rw[hf];exact .inl ⟨rfl,rfl,rfl⟩
    .exact absurd v X
    .have h8:=qN N dr o.k
     rcases(by omega:lI N dr o.k=7\/lI N dr o.k=8)with v|v
     .exact absurd ((t p.1 o u).trans (by rw[v])) M
     .rw [v]at hf
      rcases hf with hf|hf
      .exact .inr hf
      .exact .inl ⟨hf.1,hf.2.1,hf.2.2.1⟩
   rotate_left
   .rw [hf0];rfl
   .refine kD ?_
    rcases hg with hg|hg
    .rw [hg];simp[Sim.compat0,Z,f3]
    .obtain ⟨a,b,c,d⟩:=hg z H
     have:∀x∈(ft p.1).al,x∉(ft p.2.1).rd:=fun x A G=>by
      rw[a]at G;have h8:=U x G;have h9:=h.alge _ (fL3 (m p.1 (by omega))) x A;omega
     simpa[Sim.compat0,f1,Z,f3,b,c,d]using this
  |false=>
  rw[hb,fZ3]at f;rw[fM3 (fun e=>by rw[e]at hb;cases hb)]at g;have g:∀q,q=p->Qf τ q:=fun q hq=>by rw[hq];exact g
  have hp:p=p:=rfl;unfold Xh at f;rw[u,e2]at f;simp only[fF3,fW3]at f;have Y:=h.touch p.1 o _ p.2.2.1 u (m p.1 (by omega));have B:=h.touch p.2.1 q _ p.2.2.2 e2 (m p.2.1 (by omega));rcases f with(f|f)|f
  case inr.false.inr=>exact kD<|oH (.inl ⟨h.touchS p.1 o _ p.2.2.1 u (m p.1 (by omega)) f.1.1 f.1.2,B.2.1 f.2.1 f.2.2⟩) (g p hp)
  case inr.false.inl.inr=>exact kD<|aR1 (Y.1 f.1.1 f.1.2) (B.2.2 f.2.1 f.2.2) (g p hp)
  rcases f.2 with((⟨⟨h1,h2⟩,s⟩|⟨⟨h1,h2⟩,s⟩)|⟨⟨h1,h2⟩,s⟩)|⟨h1,s⟩
  .exact kD<|oH (.inl ⟨Y.1 h1 h2,B.2.1 s f.1⟩) (g p hp)
  .exact kD<|oH (.inr ⟨Y.2.2 h1 h2,B.1 s f.1⟩) (g p hp)
  .have O:=fY3 h1
   obtain⟨y,z,hy,H,hd⟩:=g p hp;rw[O]at hy;rw[hy]at H;cases H;have F:Sim.idOf y=[]:=List.eq_nil_iff_forall_not_mem.2 (fun x A=>hd x A A)
   have w:(ft p.1).all=0:=by
    have hf:=r p.1 o _ u (m p.1 (by omega));unfold tkM at h2;unfold pK at hf;split at h2
    .rename_i hk
     rw[hk]at hf;rcases hf with hf|hf
     .rw [hf]
     .exact hf.2.2
    .rename_i hk
     rw[hk]at hf;rcases hf with hf|hf
     .rw [hf]
     .exact hf
    .cases h2
   rcases B.1 s f.1 with hg|hg
   .refine kD ?_
    rw[hg];simp[Sim.compat0,w]
   .obtain ⟨a,b,c,d⟩:=hg y hy
    rw[F]at a;refine kD ?_;simp[Sim.compat0,w,a,b,c,d]
  .exact kD<|oH (.inr ⟨h.touchL p.1 o _ p.2.2.1 u (m p.1 (by omega)) h1,B.1 s f.1⟩) (g p hp)
end
end Go.P
namespace Go.P
open Go.Sim (AV AO Hp mQ upd St IC IX Ex iV CK Wf Out doOp mO exec mapO oQ Cf Su)
variable {A R:Type} {d i j lim n ty:Nat} {xs:aA PV} {ys:aA AV}
def Cy {A:Type} {f:A->aB A}:∀{l},(∀x∈l,f x=some x)->mapO f l=some l
 |[],_=>rfl
 |a::as,h=>by
  have h1:=h a (List.mem_cons_self ..)
  have h2:=Cy (f:=f) (l:=as) (fun x b=>h x (gZ3 _ b))
  simp only[mapO,h1,h2]
section
variable {L:Nat->Option AO} {n0:Nat}
def tY {x} {y} {d} (h:RC true x y):oQ L n0 (d+1) y=some y:=by
 cases h<;>rfl
def Ll {Q} {xs} {ys} (h:LR Q xs ys) {y} (hy:y∈ys):∃x,x∈xs/\Q x y:=by
 obtain⟨j,a⟩:=fQ3.1 hy;have b:j<xs.length:=by rw[h.1];exact(fE3.1 a).1
 exact⟨xs[j],by simp,h.2 j _ y (by simp) a⟩
def Jk (h:LR (RC true) xs ys):mapO (oQ L n0 (d+1)) ys=some ys:=
 Cy fun y hy=>by
  obtain⟨x,_,a⟩:=Ll h hy
  exact tY a
def mV1 {rows:aA (aA PV)} {els:aA (aA AV)} (h:RR rows els):mapO (fun row=>mapO (oQ L n0 (d+1)) row) els=some els:=
 Cy fun r hr=>by
  obtain⟨j,a⟩:=fQ3.1 hr
  have b:j<rows.length:=by rw[h.1];exact(fE3.1 a).1
  exact Jk (h.2 j rows[j] r (by simp) a)
def Xj {rows} {els} {d e id ver} {bx} {ty} (hn:n0<=id) (a:L id=some (.arr bx ty e ver els)) (hr:RR rows (els.take rows.length)) (b:rows.length<=els.length):
  oQ L n0 (d+2) (.sl e id ver 0 rows.length none)=some (.is e (els.take rows.length)):=by
 have hc:n0<=id/\ver=ver/\0+rows.length<=els.length:=⟨hn,rfl,by omega⟩
 show(match L id with
   |some (.arr _ _ e ver' els)=>
    if n0<=id/\ver'=ver/\0+rows.length<=els.length then(mapO (fun row=>mapO (oQ L n0 (d+1)) row) ((els.drop 0).take rows.length)).map fun rows=>AV.is e rows else none
   |_=>none)=_
 rw[a];show(if n0<=id/\ver=ver/\0+rows.length<=els.length then(mapO (fun row=>mapO (oQ L n0 (d+1)) row) ((els.drop 0).take rows.length)).map fun rows=>AV.is e rows else none)=_
 rw[fJ3 hc,hE3,mV1 hr];rfl
def gC1 {Q Q'} {f} (hf:∀x y,Q x y->∃b,f y=some b/\Q' x b):∀{xs} {ys},LR Q xs ys->∃a,mapO f ys=some a/\LR Q' xs a
 |[],ys,h=>by rw[h.inv_nil];exact⟨[],rfl,.nil⟩
 |x::xs,ys,h=>by
  obtain⟨y,a,rfl,h1,h2⟩:=h.inv_cons
  obtain⟨b,c,d⟩:=hf x y h1
  obtain⟨zs,e,g⟩:=gC1 hf h2
  exact⟨b::zs,by simp only[mapO,c,e],.cons d g⟩
def gD1 {z} {d} {f} (hf:∀x y,RZ z d x y->∃g,f y=some g/\RC true x g):∀{rows} {els},Jc z d rows els->∃c,mapO (fun row=>mapO f row) els=some c/\RR rows c
 |[],els,h=>by
  have:els=[]:=hO3 h.1.symm
  subst this
  exact⟨[],rfl,.nil⟩
 |r::rows,[],h=>by have:=h.1;simp at this
 |r::rows,e::els,h=>by
  obtain⟨e',k,l⟩:=gC1 hf (h.2 0 r e rfl rfl)
  obtain⟨es',m,n⟩:=gD1 hf (rows:=rows) (els:=els) ⟨by simpa using h.1,fun i a b j hb=>h.2 (i+1) a b (by simpa using j) (by simpa using hb)⟩
  exact⟨e'::es',by simp only[mapO,k,m],.cons l n⟩
def Xk {z} (j:∀id o,z id=some o->n0<=id/\L id=some o):∀d f,d<f->∀x y,RZ z d x y->∃k,oQ L n0 f y=some k/\RC true x k
 |0,f+1,_,x,y,h=>⟨y,tY h,h⟩
 |d+1,f+1,hd,x,y,h=>by
  rcases h with h|⟨e,rows,id,ver,ty,els,rfl,rfl,h3,g,h5⟩
  exact⟨y,tY h,h⟩
  have g:=g.1
  have ih:=Xk j d f (by omega)
  have hr:Jc z d rows (els.take rows.length):=⟨by simp[hI3 g],fun i r r' a b=>h5 i r r' a (by
   rw[gA3]at b
   split at b
   exact b
   cases b)⟩
  obtain⟨c,l,m⟩:=gD1 (f:=oQ L n0 f) (fun x y h=>ih x y h) hr
  obtain⟨z1,z2⟩:=j id _ h3
  refine⟨.is e c,?_,m.is⟩
  show(match L id with
   |some (.arr _ _ e ver' els)=>
    if n0<=id/\ver'=ver/\0+rows.length<=els.length then(mapO (fun row=>mapO (oQ L n0 f) row) ((els.drop 0).take rows.length)).map fun rows=>AV.is e rows else none
   |_=>none)=_
  rw[z2]
  show(if n0<=id/\ver=ver/\0+rows.length<=els.length then(mapO (fun row=>mapO (oQ L n0 f) row) ((els.drop 0).take rows.length)).map fun rows=>AV.is e rows else none)=_
  rw[fJ3 ⟨z1,rfl,by omega⟩,hE3,l]
  rfl
def gE1 {f}:∀{rows:aA (aA PV)} {els:aA (aA AV)},rows.length=els.length->(∀(i:Nat) (r:aA PV) (r':aA AV),rows[i]? =some r->els[i]? =some r'->LR (fun x y=>∃d,f y=some d/\RC true x d) r r')->∃c,mapO (fun row=>mapO f row) els=some c/\RR rows c
 |[],els,hl,h=>by
  have:els=[]:=hO3 hl.symm
  subst this
  exact⟨[],rfl,.nil⟩
 |r::rows,[],hl,h=>by simp at hl
 |r::rows,e::els,hl,h=>by
  obtain⟨e',j,k⟩:=gC1 (fun _ _ h=>h) (h 0 r e rfl rfl)
  obtain⟨es',l,m⟩:=gE1 (f:=f) (rows:=rows) (els:=els) (by simpa using hl) (fun i a b g hb=>h (i+1) a b (by simpa using g) (by simpa using hb))
  exact⟨e'::es',by simp only[mapO,j,l],.cons k m⟩
def Xl {p:TD->Bool}:∀{ks} {j} {t},(ks.all fun q=>p q.2)=true->gZ ks j=some t->p t=true
 |[],_,_,_,h=>by cases h
 |(i,t')::r,j,t,ha,h=>by
  simp only[hA3,fF3]at ha
  unfold gZ at h
  cases hb:Nat.beq i j with
  |true=>rw[hb]at h;cases h;exact ha.1
  |false=>rw[hb]at h;exact Xl ha.2 h
def gF1 {f e id ver len} {ty} {els els'} (hn:n0<=id) (a:L id=some (.arr false ty e ver els)) (b:len<=els.length) (c:mapO (fun row=>mapO (oQ L n0 f) row) (els.take len)=some els'):
  oQ L n0 (f+1) (.sl e id ver 0 len none)=some (.is e els'):=by
 show(match L id with
  |some (.arr _ _ e ver' els)=>
   if n0<=id/\ver'=ver/\0+len<=els.length then(mapO (fun row=>mapO (oQ L n0 f) row) ((els.drop 0).take len)).map fun rows=>AV.is e rows else none
  |_=>none)=_
 rw[a];show(if n0<=id/\ver=ver/\0+len<=els.length then(mapO (fun row=>mapO (oQ L n0 f) row) ((els.drop 0).take len)).map fun rows=>AV.is e rows else none)=_
 rw[fJ3 ⟨hn,rfl,by omega⟩,hE3,c];rfl
def rD {l:aA A} {x:A} (h:(l.take n)[i]? =some x):l[i]? =some x:=by grind
def Qg {f e:Nat} {ks:aA (Nat×TD)} {t:TD} (h:Ht f (.nd ty e ks)=true) (hk:gZ ks j=some t):∃g,f=g+1/\Ht g t=true:=by
 cases f with
 |zero=>
  cases ks with
  |nil=>cases hk
  |cons a r=>simp[Ht]at h
 |succ g=>exact⟨g,rfl,Xl h hk⟩
def Qh {w} {lim nS} (hn:n0<=lim):∀{f d:Nat} {sl:Nat×Nat×Nat} {t:TD} {x:PV} {y:AV},Ht f t=true->gH L w lim nS d sl t x y->∃k,oQ L n0 (f+2) y=some k/\RC true x k
 |_,0,_,_,_,_,_,h=>h.elim
 |f,d+1,sl,.nd ty e ks,x,y,ht,h=>by
  obtain⟨rows,rfl,h2⟩:=h
  rcases h2 with⟨rfl,rfl⟩|⟨id,ver,els,rfl,k2,k3,k4,kf,k5,⟨k6,_⟩,k7⟩
  exact⟨_,rfl,.isn⟩
  obtain⟨c,q1,q2⟩:=gE1 (f:=oQ L n0 (f+1)) (rows:=rows) (els:=els.take rows.length) (by simp[hI3 k6]) (fun i r r' a b=>⟨(k7 i r r' a (rD b)).1,fun j m l a1 b1=>by
   have:=(k7 i r r' a (rD b)).2 j m l a1 b1
   cases hk:gZ ks j with
   |none=>rw[hk]at this;exact⟨l,tY this,this⟩
   |some t=>
    rw[hk]at this
    obtain⟨g,rfl,hg⟩:=Qg ht hk
    exact Qh hn hg this⟩)
  exact⟨_,gF1 (gH3 hn k3) k5 k6 q1,q2.is⟩
def uL1 {C} {lim nS d id f e ver ty} {ks} {rows} {els} (hn:n0<=lim) (hl:lim<=id) (m:Ht f (.nd ty e ks)=true) (l:L id=some (.arr false ty e ver els)) (h:rows.length<=els.length)
  (hr:∀(i:Nat) (r:aA PV) (r':aA AV),rows[i]? =some r->els[i]? =some r'->r.length=r'.length/\∀(j:Nat) (a:PV) (b:AV),r[j]? =some a->r'[j]? =some b->TC C L lim nS d id ks [] i j a b):
  ∃c,oQ L n0 (f+2) (.sl e id ver 0 rows.length none)=some (.is e c)/\RR rows c:=by
 obtain⟨c,q1,q2⟩:=gE1 (f:=oQ L n0 (f+1)) (rows:=rows) (els:=els.take rows.length) (by simp[hI3 h]) (fun i r r' a b=>⟨(hr i r r' a (rD b)).1,fun j o k a1 b1=>by
  have:=(hr i r r' a (rD b)).2 j o k a1 b1;unfold TC at this;cases hk:gZ ks j with
  |none=>rw[hk]at this;exact⟨k,tY this,this⟩
  |some t=>
   rw[hk]at this;obtain⟨g,rfl,hg⟩:=Qg m hk;rcases this with⟨⟨x,n⟩,_⟩|⟨_,this⟩
   cases n;exact Qh hn hg this⟩)
 exact⟨c,gF1 (gH3 hn hl) l h q1,q2⟩
def mW1 {d id ver e o} {bx} {ty} {esz} {els} {row} (a:L id=some (.arr bx ty esz ver els)) (hr:els[e]? =some row):Cf L (d+1) (.ptr id ver e o)=(mapO (Cf L d) (row.drop o)).map AV.ip:=by
 simp[Cf,a,hr]
def xL1 {d} {f} {a b a' b'} (h1:mapO (Cf L d) a=some a') (h2:mapO (Cf L d) b=some b'):Cf L (d+1) (.fn (.func f) a b)=some (.fn (.func f) a' b'):=by
 simp[Cf,h1,h2]
def mX1 {d} {a a'} (h1:mapO (Cf L d) a=some a'):Cf L (d+1) (.agg a)=some (.agg a'):=by
 simp[Cf,h1]
def uM1 {x} {y} (h:RK x y):Su L n0 y=some y:=by
 rcases h with h|⟨cs,cs',rfl,rfl,h⟩
 cases h<;>rfl;simp only[Su,Jk h,gB3]
def gG1 {es:aA (PV×PV)} {es':aA (AV×AV)} (h:EM es es'):mapO (fun(k,x)=>match Su L n0 k,Su L n0 x with|some k,some x=>some (k,x)|_,_=>none) es'=some es':=
 Cy fun p hp=>by
  obtain⟨j,c⟩:=fQ3.1 hp
  have d:j<es.length:=by rw[h.1];exact(fE3.1 c).1
  obtain⟨h1,h2⟩:=h.2 j es[j] p (by simp) c
  obtain⟨a,b⟩:=p
  simp only[uM1 h1,uM1 h2]
end
section
variable {C:Cx} {h:bA} {s:Hp}
def Jl:∀{d} {x} {y},fS d x=true->RC false x y->Sim.closed d y=true
 |0,_,_,h,_=>by simp[fS]at h
 |d+1,x,y,hc,hr=>by
  have all:∀{xs} {ys},xs.all (fS d)=true->LR (RC false) xs ys->ys.all (Sim.closed d)=true:=by
   intro xs ys c hl;rw[fH3];intro y hy;obtain⟨x,a,b⟩:=Ll hl hy;exact Jl (fH3.1 c x a) b
  cases hr with
  |fn h1 h2 v1 v2=>
   simp only[fS,fF3]at hc;simp only[Sim.closed,fF3];exact⟨all hc.1 ⟨h1,v1⟩,all hc.2 ⟨h2,v2⟩⟩
  |agg hl hcc=>
   simp only[fS]at hc;simp only[Sim.closed];exact all hc ⟨hl,hcc⟩
  |tup hl hcc=>
   simp only[fS]at hc;simp only[Sim.closed];exact all hc ⟨hl,hcc⟩
  |_=>rfl
def FzR (L:Nat->aB AO) (d:Nat) (a:PV) (y:AV):Prop:=∃b,Cf L d y=some b/\RC false a b/\∀D,Sim.closed D y=true->RC false a y
def Xm (m:dR C n h lim s):∀(d:Nat) (x:PV) (y:AV) (K:PV->aB R) (r:R),La h d x K=some r->RV C x y->∃O,K O=some r/\FzR (Sim.look s.h) (d+1) O y
 |0,x,y,K,r,hk,_=>by unfold La at hk;exact aD hk
 |d+1,x,y,K,r,hk,hv=>by
  have i:∀(xs:aA PV) (ys:aA AV) (K:aA PV->aB R) (r:R),vE (La h d) xs K=some r->LR (RV C) xs ys->
    ∃xs' j,K xs'=some r/\mapO (Cf (Sim.look s.h) (d+1)) ys=some j/\LR (RC false) xs' j/\((∀y∈ys,∃D,Sim.closed D y=true)->LR (RC false) xs' ys):=by
   intro xs
   induction xs with
   |nil=>
    intro ys K r hk hl;rw[hl.inv_nil];unfold vE at hk;exact⟨[],[],hk,rfl,.nil,fun _=>.nil⟩
   |cons a as ih=>
    intro ys K r hk hl;obtain⟨y,j,rfl,h1,h2⟩:=hl.inv_cons;unfold vE at hk;obtain⟨a',B,b',u,P,S⟩:=Xm m d a y _ r hk h1;obtain⟨G,H,q1,q2,q3,q4⟩:=ih j _ r B h2;refine⟨a'::G,b'::H,q1,by simp only[mapO,u,q2],.cons P q3,fun hc=>?_⟩;obtain⟨D,c⟩:=hc y (by simp);exact .cons (S D c) (q4 fun z A=>hc z (by simp[A]))
  unfold La at hk;cases x with
  |own k=>
   simp only[iC,fC3]at hk;obtain⟨ob,hg,hk⟩:=hk;cases ob with
   |lst ty e g rows=>
    refine⟨_,hk,?_⟩;rcases hJ hv with⟨id,ver,J,len,l,rfl⟩|⟨l,rfl⟩
    obtain⟨_,rfl,hlen,els,p,hr,q,_⟩:=lS m hg l;subst hlen;refine⟨.is J (els.take rows.length),?_,hr.is,fun D c=>by cases D<;>simp[Sim.closed]at c⟩;exact Xj (d:=4) (gU3 _) p hr q.1;have:=mZ m hg l;subst this;exact⟨_,rfl,.isn,fun _ _=>.isn⟩
   |tr t rows hs=>
    obtain⟨ty,e,ks⟩:=t;cases hs with
    |cons a b=>exact aD hk
    |nil=>
    cases hb:Ht 4 (.nd ty e ks)with
    |false=>simp only[hb,fZ3]at hk;exact aD hk
    |true=>
    simp only[hb,fS3]at hk;refine⟨_,hk,?_⟩;rcases hJ hv with⟨id,ver,J,len,l,rfl⟩|⟨l,rfl⟩
    obtain⟨F,_,rfl,hlen,_,els,d,p,q,hr⟩:=nA m hg l;subst hlen;obtain⟨E,B,u⟩:=uL1 (n0:=0) (f:=4) (gU3 _) F hb p q.1 hr;exact⟨.is J E,B,u.is,fun D c=>by cases D<;>simp[Sim.closed]at c⟩;have:=(tV m hg l).1;subst this;exact⟨_,rfl,.isn,fun _ _=>.isn⟩
   |_=>exact aD hk
  |zs dp e rows=>
   cases hb:Nat.ble dp 5 with
   |false=>simp only[hb,fZ3]at hk;exact aD hk
   |true=>
   simp only[hb,fS3]at hk;have hb:=fK3 hb;refine⟨_,hk,?_⟩;have A:=yA hv;obtain⟨U,B,u⟩:=Xk (L:=Sim.look s.h) (n0:=0) (fun id o A=>⟨gU3 _,(m.hr.zr id o A).1⟩) dp 6 (by omega) _ _ A;rcases Fk A with(⟨rows',rfl,hr⟩|⟨rfl,rfl⟩)|⟨d',id,ver,ty,els,_,rfl,_,_,_⟩
   exact⟨_,rfl,hr.is,fun _ _=>hr.is⟩;exact⟨_,rfl,.isn,fun _ _=>.isn⟩;exact⟨U,B,u.weak,fun D c=>by cases D<;>simp[Sim.closed]at c⟩
  |map k=>
   simp only[iC,fC3]at hk;obtain⟨ob,hg,hk⟩:=hk;cases ob with
   |mp es=>
    refine⟨_,hk,?_⟩;obtain⟨id,ver,e,len,l,rfl⟩:=Ad hv;obtain⟨_,es',p,he⟩:=Py m hg l;refine⟨.im es',?_,he.er.im,fun D c=>by cases D<;>simp[Sim.closed]at c⟩;simp only[Cf,p];exact congrArg (Option.map AV.im) (gG1 he)
   |_=>exact aD hk
  |ref k o=>
   simp only[iC,fC3]at hk;obtain⟨ob,hg,hk⟩:=hk;cases ob with
   |box cs=>
    obtain⟨B,u⟩:=gA _ _ _ _ hk;obtain⟨id,ver,e,len,l,rfl⟩:=mG hv;obtain⟨_,ty,esz,row,p,hl⟩:=Af m hg l;obtain⟨xs',j,q1,q2,q3,_⟩:=i _ _ _ r u (hl.drop o);refine⟨_,q1,.ip j,?_,.ip q3.1 q3.2,fun D c=>by cases D<;>simp[Sim.closed]at c⟩;rw[mW1 p rfl,q2];rfl
   |_=>exact aD hk
  |fn f a b=>
   obtain⟨a',b',rfl,h1,h2⟩:=tU hv;obtain⟨M,w,p1,p2,p3,p4⟩:=i _ _ _ r hk h1;obtain⟨T,N,q1,q2,q3,q4⟩:=i _ _ _ r p1 h2;refine⟨_,q1,.fn (.func f) w N,xL1 p2 q2,.fn p3.1 q3.1 p3.2 q3.2,fun D c=>?_⟩;cases D with
   |zero=>simp[Sim.closed]at c
   |succ D=>
    simp only[Sim.closed,fF3,fH3]at c;have w1:=p4 fun y hy=>⟨D,c.1 y hy⟩
    have w2:=q4 fun y hy=>⟨D,c.2 y hy⟩
    exact .fn w1.1 w2.1 w1.2 w2.2
  |agg cs=>
   obtain⟨cs',rfl,h1⟩:=nI hv;obtain⟨M,w,p1,p2,p3,p4⟩:=i _ _ _ r hk h1;refine⟨_,p1,.agg w,mX1 p2,.agg p3.1 p3.2,fun D c=>?_⟩;cases D with
   |zero=>simp[Sim.closed]at c
   |succ D=>
    simp only[Sim.closed,fH3]at c;have w1:=p4 fun y hy=>⟨D,c y hy⟩
    exact .agg w1.1 w1.2
  |v x=>
   rw[iX hv];exact⟨_,hk,_,rfl,.v x,fun _ _=>.v x⟩
  |is e rows=>
   refine⟨_,hk,?_⟩;rcases wC hv with⟨rows',rfl,hr⟩|⟨rfl,rfl⟩
   exact⟨_,rfl,hr.is,fun _ _=>hr.is⟩;exact⟨_,rfl,.isn,fun _ _=>.isn⟩
  |ip cs=>
   obtain⟨cs',rfl,hl⟩:=Bt hv;exact⟨_,hk,_,rfl,.ip hl.1 hl.2,fun _ _=>.ip hl.1 hl.2⟩
  |im es=>
   obtain⟨es',rfl,he⟩:=Wy hv;exact⟨_,hk,_,rfl,he.im,fun _ _=>he.im⟩
  |_=>exact aD hk
def Bw (e:dR C n h lim s):∀(xs:aA PV) (ys:aA AV) (K:aA PV->aB R) (r:R),Cv h xs K=some r->LR (RV C) xs ys->
  ∃xs' b,K xs'=some r/\mapO (Cf (Sim.look s.h) 6) ys=some b/\LR (RC false) xs' b/\((∀y∈ys,∃D,Sim.closed D y=true)->LR (RC false) xs' ys)
 |[],ys,K,r,hk,hl=>by
  rw[hl.inv_nil]
  exact⟨[],[],hk,rfl,.nil,fun _=>.nil⟩
 |a::as,ys,K,r,hk,hl=>by
  obtain⟨y,b,rfl,h1,h2⟩:=hl.inv_cons
  unfold Cv at hk
  obtain⟨a',i,b',j,k,l⟩:=Xm e 5 a y _ r hk h1
  obtain⟨c,d,q1,q2,q3,q4⟩:=Bw e as b _ r i h2
  refine⟨a'::c,b'::d,q1,by simp only[mapO,j,q2],.cons k q3,fun hc=>?_⟩
  obtain⟨D,f⟩:=hc y (by simp)
  exact .cons (l D f) (q4 fun z g=>hc z (by simp[g]))
def sB (T:mO) (f:FuncId) (xs:aA PV) (v:PV):Prop:=
 ∃ifn,T f=some ifn/\ifn.pure=true/\(Aa 4 v=true->ifn.frz=true)/\∀ys,LR (RC false) xs ys->∃D,∀d,D<=d->∃y,Sim.runP T (exec T d) f ifn ys=some y/\RC false v y
def gH1:∀{d} {x} {y},Aa d x=true->RC false x y->Sim.gnd d y=true
 |0,_,_,h,_=>by simp[Aa]at h
 |d+1,x,y,hc,hr=>by
  have all:∀{xs} {ys},xs.all (Aa d)=true->LR (RC false) xs ys->ys.all (Sim.gnd d)=true:=by
   intro xs ys c hl;rw[fH3];intro y hy;obtain⟨x,a,b⟩:=Ll hl hy;exact gH1 (fH3.1 c x a) b
  cases hr with
  |v x=>rfl
  |agg hl hcc=>simp only[Aa]at hc;simp only[Sim.gnd];exact all hc ⟨hl,hcc⟩
  |tup hl hcc=>simp only[Aa]at hc;simp only[Sim.gnd];exact all hc ⟨hl,hcc⟩
  |_=>simp[Aa]at hc
def Qi {T:mO} {O:Hk} (u:∀f xs v,O f xs=some v->sB T f xs v) (w:dR C n h lim s) {f:FuncId} {K:PV->aB R} {r:R} (hk:Br O f xs h K=some r) (q:LR (RV C) xs ys):
  ∃v y,K v=some r/\RC false v y/\(∃ifn,T f=some ifn/\ifn.pure=true/\(ifn.frz||ys.all (Sim.closed 4))=true)/\∃D,∀d,D<=d->∀m,Sim.callF T (exec T d) lim f ys {h:=s.h,n:=m}=some (y,{h:=s.h,n:=m}):=by
 unfold Br at hk;by_cases hc:xs.all (fS 4)=true;rw[hc,fS3,cF,fC3]at hk;obtain⟨v,hv,hk⟩:=hk;rw[Px]at hk;obtain⟨ifn,h1,h2,l,o⟩:=u f xs v hv;have i:LR (RC false) xs ys:=⟨q.1,fun j x y a b=>Jh (q.2 j x y a b) (fH3.1 hc x (fL3 a))⟩
 have c:ys.all (Sim.closed 4)=true:=by
  rw[fH3];intro y hy;obtain⟨x,z,A⟩:=Ll i hy;exact Jl (fH3.1 hc x z) A
 obtain⟨D,g⟩:=o ys i;obtain⟨y,k,e⟩:=g D (fI3 _);refine⟨v,y,hk,e,⟨ifn,h1,h2,by rw[c];simp⟩,D,fun d hd m=>?_⟩;simp only[Sim.callF,h1,h2,gF3,c,Sim.mono_runP (Sim.mono_le T hd) k,gB3];simp only[iX3]at hc;rw[hc,fZ3]at hk;obtain⟨xs',t,q1,q2,q3,q4⟩:=Bw w xs ys _ r hk q;rw[cF,fC3]at q1;obtain⟨v,hv,q1⟩:=q1;rw[Px]at q1;cases hg:Aa 4 v with
 |false=>rw[hg]at q1;exact aD q1
 |true=>
  rw[hg,fS3]at q1;obtain⟨ifn,h1,h2,l,o⟩:=u f xs' v hv;by_cases c:ys.all (Sim.closed 4)=true;obtain⟨D,g⟩:=o ys (q4 fun y hy=>⟨4,fH3.1 c y hy⟩);obtain⟨y,k,e⟩:=g D (fI3 _);refine⟨v,y,q1,e,⟨ifn,h1,h2,by rw[l hg];rfl⟩,D,fun d hd m=>?_⟩;simp only[Sim.callF,h1,h2,gF3,c,Sim.mono_runP (Sim.mono_le T hd) k,gB3];obtain⟨D,g⟩:=o t q3;obtain⟨y,k,e⟩:=g D (fI3 _);have p:=gH1 hg e;refine⟨v,y,q1,e,⟨ifn,h1,h2,by rw[l hg];rfl⟩,D,fun d hd m=>?_⟩;simp only[Sim.callF,h1,h2,l hg,gF3,q2,Sim.mono_runP (Sim.mono_le T hd) k,p];rw[fM3 c]
end
end Go.P
namespace Go.P
open Go.Sim (AV AO Hp mQ upd St IC IX Ex iV CK Wf Out doOp mO exec)
variable {C C':Cx} {lim n:Nat}
section
variable {R:Type} {h:bA} {s:Hp}
def lT (k:Nat) (C C':Cx):Prop:=(∀j,j≠k->C' j=C j)/\∀id o,C.z id=some o->C'.z id=some o
def Qj {C'} {k} (m:lT k C C'):∀(d:Nat) (x:PV) (y:AV) (K:PV->aB R) (r:R),fY k d x K=some r->RV C x y->∃q,K q=some r/\RV C' q y
 |0,x,y,K,r,hk,_=>by unfold fY at hk;exact⟨_,hk,.undef⟩
 |d+1,x,y,K,r,hk,hv=>by
  have c:∀(xs:aA PV) (ys:aA AV) (K:aA PV->aB R) (r:R),fY.kills k d xs K=some r->LR (RV C) xs ys->∃xs',K xs'=some r/\LR (RV C') xs' ys:=by
   intro xs
   induction xs with
   |nil=>
    intro ys K r hk hl;rw[hl.inv_nil];unfold fY.kills at hk;exact⟨[],hk,.nil⟩
   |cons a as ih=>
    intro ys K r hk hl;obtain⟨y,p,rfl,h1,h2⟩:=hl.inv_cons;unfold fY.kills at hk;obtain⟨a',t,u⟩:=Qj m d a y _ r hk h1;obtain⟨n,q1,q2⟩:=ih p _ r t h2;exact⟨a'::n,q1,.cons u q2⟩
  have other:∀{pl:aB Pl} {j:Nat},C j=pl->j≠k->C' j=pl:=fun h s=>(m.1 _ s).trans h;unfold fY at hk;cases x with
  |zs d e rows=>exact⟨_,hk,.zs (RZ.mono m.2 (yA hv))⟩
  |own j=>
   simp only[bJ]at hk;by_cases e:j=k;rw[gP3 e]at hk;exact⟨_,hk,.undef⟩;rw[gJ3 e]at hk;refine⟨_,hk,?_⟩;rcases hJ hv with⟨id,ver,l,len,hc,rfl⟩|⟨hc,hy⟩
   exact .own (other hc e);exact .ownn (other hc e) hy
  |el j i o=>
   simp only[bJ]at hk;by_cases e:j=k;rw[gP3 e]at hk;exact⟨_,hk,.undef⟩;rw[gJ3 e]at hk;obtain⟨id,ver,l,len,hc,rfl⟩:=tT hv;exact⟨_,hk,.el (other hc e)⟩
  |fn f a b=>
   obtain⟨a',b',rfl,h1,h2⟩:=tU hv;obtain⟨g,p1,p2⟩:=c _ _ _ r hk h1;obtain⟨w,q1,q2⟩:=c _ _ _ r p1 h2;exact⟨_,q1,.fn p2.1 q2.1 p2.2 q2.2⟩
  |agg cs=>
   obtain⟨cs',rfl,h1⟩:=nI hv;obtain⟨g,p1,p2⟩:=c _ _ _ r hk h1;exact⟨_,p1,.agg p2.1 p2.2⟩
  |tup cs=>
   obtain⟨cs',rfl,h1⟩:=Ac hv;obtain⟨g,p1,p2⟩:=c _ _ _ r hk h1;exact⟨_,p1,.tup p2.1 p2.2⟩
  |ref j o=>
   simp only[bJ]at hk;by_cases e:j=k;rw[gP3 e]at hk;exact⟨_,hk,.undef⟩;rw[gJ3 e]at hk;obtain⟨id,ver,l,len,hc,rfl⟩:=mG hv;exact⟨_,hk,.ref (other hc e)⟩
  |map j=>
   simp only[bJ]at hk;by_cases e:j=k;rw[gP3 e]at hk;exact⟨_,hk,.undef⟩;rw[gJ3 e]at hk;obtain⟨id,ver,l,len,hc,rfl⟩:=Ad hv;exact⟨_,hk,.map (other hc e)⟩
  |yld j=>
   simp only[bJ]at hk;by_cases e:j=k;rw[gP3 e]at hk;exact⟨_,hk,.undef⟩;rw[gJ3 e]at hk;obtain⟨id,ver,l,len,hc,rfl⟩:=Lg hv;exact⟨_,hk,.yld (other hc e)⟩
  |v x=>rw[iX hv];exact⟨_,hk,.cl (.v x)⟩
  |is e rows=>exact⟨_,hk,.cl (by cases hv with|cl h=>exact h)⟩
  |ip cs=>exact⟨_,hk,.cl (by cases hv with|cl h=>exact h)⟩
  |im es=>exact⟨_,hk,.cl (by cases hv with|cl h=>exact h)⟩
  |undef=>exact⟨_,hk,.undef⟩
  |zp cs=>exact⟨_,hk,hv.zpm m.2⟩
def Ft {k}:∀(d:Nat) (x:PV) (K:PV->aB R) (r:R),fY k d x K=some r->∃g,K g=some r/\∀{C C':Cx} {y:AV},lT k C C'->RV C x y->RV C' g y
  |d,x,K,r,hk=>by
    have n:∃g,(∀{R:Type} (K:PV->aB R),fY k d x K=K g):=by
      have q:∀(d:Nat) (x:PV),∃g,∀{R:Type} (K:PV->aB R),fY k d x K=K g:=by
        intro d
        induction d with
        |zero=>intro x;exact⟨.undef,fun K=>by unfold fY;rfl⟩
        |succ d ih=>
          have c:∀(xs:aA PV),∃xs',∀{R:Type} (K:aA PV->aB R),fY.kills k d xs K=K xs':=by
            intro xs
            induction xs with
            |nil=>exact⟨[],fun K=>by unfold fY.kills;rfl⟩
            |cons a as ihl=>
              obtain⟨a',h⟩:=ih a;obtain⟨m,p⟩:=ihl;exact⟨a'::m,fun K=>by unfold fY.kills;rw[h,p]⟩
          intro x;cases x with
          | own j => by_cases e:j=k
                     exact⟨.undef,fun K=>by unfold fY;simp[bJ,e]⟩;exact⟨.own j,fun K=>by unfold fY;simp[bJ,e]⟩
          | el j i o => by_cases e:j=k
                        exact⟨.undef,fun K=>by unfold fY;simp[bJ,e]⟩;exact⟨.el j i o,fun K=>by unfold fY;simp[bJ,e]⟩
          | ref j o => by_cases e:j=k
                       exact⟨.undef,fun K=>by unfold fY;simp[bJ,e]⟩;exact⟨.ref j o,fun K=>by unfold fY;simp[bJ,e]⟩
          |zs d e rows=>exact⟨.zs d e rows,fun K=>by unfold fY;rfl⟩
          | map j => by_cases e:j=k
                     exact⟨.undef,fun K=>by unfold fY;simp[bJ,e]⟩;exact⟨.map j,fun K=>by unfold fY;simp[bJ,e]⟩
          | yld j => by_cases e:j=k
                     exact⟨.undef,fun K=>by unfold fY;simp[bJ,e]⟩;exact⟨.yld j,fun K=>by unfold fY;simp[bJ,e]⟩
          |fn f a b=>
            obtain⟨a',h⟩:=c a;obtain⟨b',hb⟩:=c b;exact⟨.fn f a' b',fun K=>by unfold fY;simp only[h,hb]⟩
          |agg cs=>
            obtain⟨a',h⟩:=c cs;exact⟨.agg a',fun K=>by unfold fY;simp only[h]⟩
          |tup cs=>
            obtain⟨a',h⟩:=c cs;exact⟨.tup a',fun K=>by unfold fY;simp only[h]⟩
          |v x=>exact⟨.v x,fun K=>by unfold fY;rfl⟩
          |is e rows=>exact⟨.is e rows,fun K=>by unfold fY;rfl⟩
          |ip cs=>exact⟨.ip cs,fun K=>by unfold fY;rfl⟩
          |im es=>exact⟨.im es,fun K=>by unfold fY;rfl⟩
          |undef=>exact⟨.undef,fun K=>by unfold fY;rfl⟩
          |zp cs=>exact⟨.zp cs,fun K=>by unfold fY;rfl⟩
      exact q d x
    obtain⟨g,l⟩:=n;refine⟨g,by rw[<-hk];exact(l K).symm,fun{C C' y} s hv=>?_⟩;obtain⟨t,h1,h2⟩:=Qj (R:=PV) s d x y some g (l some) hv;cases h1;exact h2
def gI1 (k:Nat) (e e':gL):Prop:=∀i v',fQ e' i=some v'->∃v,fQ e i=some v/\∀{C C':Cx} {y:AV},lT k C C'->RV C v y->RV C' v' y
def kN {k}:∀(e:gL) (K:gL->aB R) (r:R),oD k e K=some r->∃e',K e'=some r/\gI1 k e e'
 |[],K,r,hk=>⟨[],hk,fun i v h=>by simp[fQ]at h⟩
 |(j,v)::t,K,r,hk=>by
  unfold oD at hk
  obtain⟨v',a,c⟩:=Ft 3 v _ r hk
  obtain⟨b,q1,q2⟩:=kN t _ r a
  refine⟨(j,v')::b,q1,fun i w hw=>?_⟩
  simp only[fQ]at hw ⊢
  split at hw
  grind
  rename_i e;rw[fM3 e];exact q2 i w hw
def vN (k:Nat) (h h':bA):Prop:=(∀j,aK h' j=none↔aK h j=none)/\∀j o',aK h' j=some o'->∃o,aK h j=some o/\gX o'=gX o/\
 ∀{C C':Cx} {L:Nat->aB AO} {lim nS:Nat} {pl:Pl},lT k C C'->C'.w=C.w->gO C L lim nS o pl->gO C' L lim nS o' pl
def Fu {k d}:∀(xs:aA PV) (K:aA PV->aB R) (r:R),fY.kills k d xs K=some r->∃xs',K xs'=some r/\∀{C C':Cx} {ys:aA AV},lT k C C'->LR (RV C) xs ys->LR (RV C') xs' ys
 |[],K,r,hk=>by
  unfold fY.kills at hk
  exact⟨[],hk,fun _ hl=>by rw[hl.inv_nil];exact .nil⟩
 |a::as,K,r,hk=>by
  unfold fY.kills at hk
  obtain⟨a',e,f⟩:=Ft d a _ r hk
  obtain⟨b,q1,q2⟩:=Fu as _ r e
  refine⟨a'::b,q1,fun c hl=>?_⟩
  obtain⟨y,g,rfl,h1,h2⟩:=hl.inv_cons
  exact .cons (f c h1) (q2 c h2)
def xM1 {fs b:aA PV} {els:aA (aA AV)} (h:∀{ys:aA AV},LR (RV C) fs ys->LR (RV C') b ys) (hl:els.length=fs.length) (hr:∀(i:Nat) (f:PV) (row:aA AV),fs[i]? =some f->els[i]? =some row->LR (RV C) [f] row):
  fs.length=b.length/\els.length=b.length/\∀(i:Nat) (f:PV) (row:aA AV),b[i]? =some f->els[i]? =some row->LR (RV C') [f] row:=by
 have hy:=h (ys:=els.map fun r=>r.headD default) ⟨by simp[hl],fun j x y m hy=>by
  simp only[gG3,fG3]at hy;obtain⟨row,a,rfl⟩:=hy;obtain⟨y,g,rfl,k,l⟩:=(hr j x row m a).inv_cons;exact k⟩
 have hlen:b.length=els.length:=by simpa using hy.1
 refine⟨by omega,by omega,fun i f row hf a=>?_⟩
 have e:∃c,fs[i]? =some c:=by
  have:=(fE3.1 a).1;exact⟨fs[i]'(by omega),by simp⟩
 obtain⟨c,d⟩:=e;obtain⟨y,g,rfl,k,l⟩:=(hr i c row d a).inv_cons;rw[l.inv_nil];exact .cons (hy.2 i f y hf (by simp[gG3,a])) .nil
def wG {k}:∀(hs:aA (Nat×Nat×PV)) (K:aA (Nat×Nat×PV)->aB R) (r:R),Fa k hs K=some r->∃c,K c=some r/\(hs=[]->c=[])/\∀i j,(Ch hs i j->Ch c i j)/\∀d,(j,i,d)∈c->∃x,(j,i,x)∈hs/\∀{C C':Cx} {y:AV},lT k C C'->RV C x y->RV C' d y
 |[],K,r,hk=>⟨[],hk,fun _=>rfl,fun i j=>⟨fun h=>h,fun d h=>by cases h⟩⟩
 |(a,b,x)::t,K,r,hk=>by
  unfold Fa at hk
  obtain⟨d,f,g⟩:=Ft 3 x _ r hk
  obtain⟨l,q1,q2,q3⟩:=wG t _ r f
  refine⟨_,q1,fun h=>(by cases h),fun i j=>⟨fun⟨y,hy⟩=>?_,fun y hy=>?_⟩⟩
  rcases fT3.1 hy with hy|hy
  cases hy;exact⟨d,List.mem_cons_self ..⟩
  obtain⟨z,e⟩:=(q3 i j).1 ⟨y,hy⟩
  exact⟨z,gZ3 _ e⟩
  grind
def lL {k:Nat}:∀(h:bA) (K:bA->aB R) (r:R),lQ k h K=some r->∃h',K h'=some r/\vN k h h'
 |[],K,r,hk=>⟨[],hk,fun j=>Iff.rfl,fun j o h=>by simp[aK]at h⟩
 |(j,o)::t,K,r,hk=>by
  have fin:∀(o':eT),lQ k t (fun r=>K ((j,o')::r))=some r->gX o'=gX o->(∀{C C':Cx} {L:Nat->aB AO} {lim nS:Nat} {pl:Pl},lT k C C'->C'.w=C.w->gO C L lim nS o pl->gO C' L lim nS o' pl)->∃h',K h'=some r/\vN k ((j,o)::t) h':=by
   intro o' hk hb f;obtain⟨G,q1,q2,q3⟩:=lL t _ r hk;refine⟨(j,o')::G,q1,fun i=>?_,fun i w hw=>?_⟩;simp only[aK];split;simp;exact q2 i;simp only[aK]at hw ⊢;split at hw
   grind
   grind
  unfold lQ at hk;cases o with
  |box cs=>
   obtain⟨cs',s,m⟩:=Fu cs _ r hk;refine fin _ s rfl (fun{C C' L lim nS pl} l hw f=>?_);cases pl with
   |nil=>exact f
   |atp id ver e len=>
    obtain⟨h1,h2,ty,esz,row,n,p⟩:=f;exact⟨h1,h2,ty,esz,row,n,m l p⟩
  |lst ty e g rows=>exact fin _ hk rfl (fun{C C' L lim nS pl} l hw f=>by cases pl<;>exact f)
  |mp es=>exact fin _ hk rfl (fun{C C' L lim nS pl} l hw f=>by cases pl<;>exact f)
  |fl fs=>
   obtain⟨D,s,m⟩:=Fu fs _ r hk;refine fin _ s rfl (fun{C C' L lim nS pl} l hw f=>?_);cases pl with
   |nil=>exact f
   |atp id ver e len=>
    obtain⟨h1,h2,n,p,ty,els,u,z,A⟩:=f;obtain⟨a,b,c⟩:=xM1 (m l) z A;exact⟨h1,h2,n,by rw[p,a],ty,els,u,b,c⟩
  |loop N e ps a b busy fi=>
   obtain⟨e',s,m⟩:=kN e _ r hk;refine fin _ s rfl (fun{C C' L lim nS pl} l hw f=>?_);cases pl with
   |nil=>exact f
   |atp id ver e3 len=>
    obtain⟨h1,h2,st,pend,tmps,n,p,u,z⟩:=f;refine⟨h1,h2,st,pend,tmps,n,p,fun i v hv=>?_,z⟩;obtain⟨w,w1,w2⟩:=m i v hv;obtain⟨y,J,M⟩:=u i w w1;exact⟨y,J,w2 l M⟩
  |tr t rows hs=>
   obtain⟨E,s,m⟩:=wG hs _ r hk;refine fin _ s rfl (fun{C C' L lim nS pl} l hw f=>?_);obtain⟨ty,e,ks⟩:=t;cases pl with
   |nil=>exact⟨f.1,by have:=f.2;subst this;simpa using m.1⟩
   |atp id ver e3 len=>
    obtain⟨h1,h2,n,p,u,els,d,z,A,B⟩:=f;refine⟨h1,h2,n,p,u,els,d,z,A,fun i r r' a b=>⟨(B i r r' a b).1,fun j x y c1 c2=>?_⟩⟩;have:=(B i r r' a b).2 j x y c1 c2;unfold TC at this ⊢;cases hk:gZ ks j with
    |none=>rw[hk]at this;exact this
    |some t=>
     rw[hk]at this;simp only at this ⊢;rw[hw];have q:=m.2 i j;rcases this with⟨a1,a2⟩|⟨a1,a2⟩
     grind
     exact .inr ⟨fun⟨H,F⟩=>by
      obtain⟨x,p1,_⟩:=q.2 H F;exact a1 ⟨x,p1⟩,a2⟩
def gJ1 (c:dR C n h lim s) {e:Nat} {x:PV} {y:AV} {K:aA (aA PV)->aB R} {r:R} (hk:eY1 h e x K=some r) (hv:RV C x y):∃rows rows',K rows=some r/\Sim.rowsOf (Sim.look s.h) e y=some rows'/\RR rows rows':=by
 unfold eY1 at hk;split at hk;rename_i e' rows;rw[bJ]at hk;by_cases a:e'=e;subst a;rw[gP3 rfl,fS3]at hk;rcases Wx hv with⟨rows',rfl,hr⟩|⟨rfl,rfl|rfl⟩
 exact⟨rows,rows',hk,by simp[Sim.rowsOf],hr⟩;exact⟨[],[],hk,rfl,.nil⟩;exact⟨[],[],hk,rfl,.nil⟩
 grind
 rename_i k;simp only[iC,fC3]at hk;obtain⟨ob,hg,hk⟩:=hk;cases ob with
 |lst ty e' g rows=>
  simp only[bJ]at hk;by_cases a:e'=e;subst a;rw[gP3 rfl,fS3]at hk;rcases lB hv with⟨id,ver,i,len,b,rfl⟩|⟨b,hy⟩
  obtain⟨_,rfl,hlen,els,d,hr,f,_⟩:=lS c hg b;subst hlen;refine⟨rows,els.take rows.length,hk,?_,hr⟩;simp only[Sim.rowsOf,d];rw[fJ3 ⟨by trivial,by trivial,by omega⟩,hE3];have:=mZ c hg b;subst this;rcases hy with rfl|rfl;exact⟨[],[],hk,rfl,.nil⟩;exact⟨[],[],hk,rfl,.nil⟩
  grind
 |_=>exact aD hk
 rw[iX hv];exact⟨[],[],hk,rfl,.nil⟩;exact aD hk
def mv (C:Cx) (k:Nat) (pl:Pl):Cx:=⟨fun j=>if j=k then some pl else C j,C.z,C.w⟩
def fW (C:Cx) (k:Nat) (pl:Pl):lT k C (mv C k pl):=⟨fun j a=>fM3 a,fun _ _ h=>h⟩
def qB (C:Cx) (k:Nat) (pl:Pl):mv C k pl k=some pl:=fJ3 rfl
def lT.self {k} {C}:lT k C C:=⟨fun _ _=>rfl,fun _ _ h=>h⟩
def Lm {k} {po po'} {h1} {C'} (hg:aK h k=some po) (hkl:vN k h h1) (hb:gX po'=false) (c:lT k C C'):
  ∀j o,aK h j=some o->∃o',aK (dB h1 k po') j=some o'/\(gX o'=true->gX o=true/\C' j=C j):=by
 intro j o a
 have d:(aK h1 k).isSome=true:=by
  cases hc:aK h1 k with
  |none=>rw[(hkl.1 k).1 hc]at hg;cases hg
  |some o=>rfl
 rw[eJ];by_cases b:j=k
 grind
 rw[fM3 (fun h=>b h.1)];cases hc:aK h1 j with
 |none=>rw[(hkl.1 j).1 hc]at a;cases a
 |some o'=>
  obtain⟨o0,q1,e,_⟩:=hkl.2 j o' hc;rw[a]at q1;cases q1;exact⟨o',rfl,fun h=>⟨by rw[<-e];exact h,c.1 j b⟩⟩
def Qk (c:dR C n h lim s) {k id ver e len} {po po2} {h1} {s'} (hg:aK h k=some po) (hkl:vN k h h1)
  (hs:s.n<=s'.n) (hw:Wf s'.h s'.n) (E:Sk s.h s'.h s.n) (b:∀i,i<s.n->i≠id->Sim.look s'.h i=Sim.look s.h i) (a:s.n<=id\/∃v e l,C k=some (.atp id v e l))
  (K:gO (mv C k (.atp id ver e len)) (Sim.look s'.h) lim s'.n po2 (.atp id ver e len)) (B:gX po2=false):
  dR (mv C k (.atp id ver e len)) n (dB h1 k po2) lim s'/\Fr C h s (mv C k (.atp id ver e len)) (dB h1 k po2) s':=by
 have D:(aK h1 k).isSome=true:=by
  cases hc:aK h1 k with
  |none=>rw[(hkl.1 k).1 hc]at hg;cases hg
  |some o=>rfl
 have p:∀j,aK (dB h1 k po2) j=if j=k then some po2 else aK h1 j:=fun j=>by
  rw[eJ];simp[D]
 have d:∀j,aK (dB h1 k po2) j≠none->aK h j≠none:=fun j g=>by
  rw[p]at g;split at g
  grind
  exact fun hc=>g ((hkl.1 j).2 hc)
 have u:C.w id=none:=by
  rcases a with a|⟨v',e',l',a⟩
  cases f:C.w id with
  |none=>rfl
  |some sl=>have:=(c.hr.wb id sl f).1;omega
  exact c.hr.wn k id v' e' l' (by rw[hg];simp) a
 have q:∀j v e l,j≠k->aK h j≠none->C j≠some (.atp id v e l):=by
  intro j v e2 l g G hc;rcases a with a|⟨v',e',l',a⟩
  have:=(c.hr.lt G hc).2;omega;exact g (c.hr.inj j k id _ _ _ _ _ _ G (by rw[hg];simp) hc a)
 refine⟨⟨⟨fun j o g=>?_,fun j r i v1 m y v2 e2 M a1 a2 a3 a4=>?_,fun i o L=>?_,fun j i v1 m y a1 a2=>?_,fun i sl hw=>⟨gN3 (c.hr.wb i sl hw).1 hs,gN3 (c.hr.wb i sl hw).2 hs⟩,c.hr.wz⟩,fun j pl g=>?_,hw,gH3 c.lim hs⟩,⟨E,hs,fun i hi hn=>b i hi (fun m=>hn ?_),fun i hi hn=>?_,Lm hg hkl B (fW C k _),fun _ _ h=>h,fun _ _ h=>.inl h⟩⟩;rw[p]at g;split at g;rename_i m;subst m;cases g;exact⟨_,qB C j _,K⟩;rename_i z;obtain⟨o0,q1,N,q2⟩:=hkl.2 j o g;obtain⟨pl,x,A⟩:=c.hr.ob j o0 q1;refine⟨pl,((fW C k _).1 j z).trans x,?_⟩;have H:gO (mv C k (.atp id ver e len)) (Sim.look s.h) lim s.n o pl:=q2 (fW C k _) rfl A;refine H.mono hs (.refl _) (fun i v1 m y hp=>?_) (fun J sl f=>⟨f,b J (c.hr.wb J sl f).1 fun e2=>by rw[e2]at f;rw[show(mv C k (.atp id ver e len)).w=C.w from rfl,u]at f;cases f⟩);subst hp;exact b i H.lt.2 (fun e2=>by subst e2;exact q j _ _ _ z (by rw[q1];simp) x);by_cases b1:j=k;by_cases b2:r=k;rw[b1,b2];exfalso;subst b1;rw[qB]at a3;cases a3;rw[(fW C j _).1 r b2]at a4;exact q r _ _ _ b2 (d r a2) a4;by_cases b2:r=k;exfalso;subst b2;rw[qB]at a4;cases a4;rw[(fW C r _).1 j b1]at a3;exact q j _ _ _ b1 (d j a1) a3;rw[(fW C k _).1 j b1]at a3;rw[(fW C k _).1 r b2]at a4;exact c.hr.inj j r i v1 m y v2 e2 M (d j a1) (d r a2) a3 a4;obtain⟨z1,z2,z3,z4⟩:=c.hr.zr i o L;have t:i≠id:=fun m=>by grind
 refine⟨(b i z2 t).trans z1,gN3 z2 hs,fun j v e' l h1 h2=>?_,z4⟩;by_cases b1:j=k;subst b1;rw[qB]at h2;cases h2;exact t rfl;exact z3 j v e' l (d j h1) (((fW C k _).1 j b1).symm.trans h2);by_cases b1:j=k;subst b1;rw[qB]at a2;cases a2;exact u;exact c.hr.wn j i v1 m y (d j a1) (((fW C k _).1 j b1).symm.trans a2);by_cases b1:j=k;subst b1;obtain⟨F,x,_⟩:=c.hr.ob j _ hg;exact c.dom j F x;exact c.dom j pl (((fW C k _).1 j b1).symm.trans g);subst m;rcases a with a|⟨v',e',l',a⟩
 omega;exact .inl ⟨k,v',e',l',by rw[hg];simp,a⟩;rcases hn with⟨j,v1,m,y,x,A⟩|hn;by_cases b1:j=k;subst b1;rw[qB]at A;cases A;rcases a with a|⟨v',e',l',a⟩
 omega;exact .inl ⟨j,v',e',l',by rw[hg];simp,a⟩;exact .inl ⟨j,v1,m,y,d j x,((fW C k _).1 j b1).symm.trans A⟩;exact .inr hn
end
end Go.P
namespace Go.P
open Go.Sim (AV AO Hp mQ upd St IC IX Ex iV CK Wf Out doOp mO exec)
variable {C C':Cx} {L L':Nat->aB AO} {c d es lim n nS ty:Nat} {e:gL} {kill:aA Nat} {t:aA AV} {y y2:AV} {zero:aA Value}
def eU.mono {C C'} {e} {t} (h:eU C e t) (a:C.le C'):eU C' e t:=fun i v hv=>by
 obtain⟨y,h1,h2⟩:=h i v hv
 exact⟨y,h1,h2.mono a⟩
def eU.put {e':gL} {v:PV} (hd:d<t.length) (hv:RV C' v y) (he:∀i w,fQ e' i=some w->∃z,t[i]? =some z/\RV C' w z/\i≠d):eU C' ((d,v)::e') (t.set d y):=by
 intro i w hw;simp only[fQ]at hw;split at hw
 grind
 grind
def eU.edel {C} {e} {t} (h:eU C e t) (is:aA Nat):∀i w,fQ (edel e is) i=some w->∃z,t[i]? =some z/\RV C w z/\i∉is:=fun i w hw=>by
 rw[Je]at hw
 split at hw
 cases hw
 rename_i hi
 obtain⟨z,h1,h2⟩:=h i w hw
 exact⟨z,h1,h2,hi⟩
section
variable {R:Type} {h:bA} {s:Hp}
def Xn (c:dR C n h lim s) {k} {po} {h1} (hg:aK h k=some po) (hkl:vN k h h1) (hb:gX po=false):dR C n (dB h1 k po) lim s/\Fr C h s C (dB h1 k po) s:=by
 have m:(aK h1 k).isSome=true:=by
  cases hc:aK h1 k with
  |none=>rw[(hkl.1 k).1 hc]at hg;cases hg
  |some o=>rfl
 have a:∀j,aK (dB h1 k po) j=if j=k then some po else aK h1 j:=fun j=>by
  rw[eJ];simp[m]
 have b:∀j,aK (dB h1 k po) j≠none->aK h j≠none:=fun j d=>by
  rw[a]at d;split at d
  grind
  exact fun hc=>d ((hkl.1 j).2 hc)
 refine⟨⟨⟨fun j o d=>?_,fun j t i v1 f g v2 e2 w a1 a2 a3 a4=>c.hr.inj j t i v1 f g v2 e2 w (b j a1) (b t a2) a3 a4,fun i o u=>?_,fun j i v1 f g a1 a2=>c.hr.wn j i v1 f g (b j a1) a2,c.hr.wb,c.hr.wz⟩,c.dom,c.wf,c.lim⟩,⟨.refl _ _,fI3 _,fun _ _ _=>rfl,fun i hi p=>?_,Lm hg hkl hb lT.self,fun _ _ h=>h,fun _ _ h=>.inl h⟩⟩;rw[a]at d;split at d;rename_i f;subst f;cases d;exact c.hr.ob j _ hg;obtain⟨o0,q1,x,q2⟩:=hkl.2 j o d;obtain⟨pl,q,r⟩:=c.hr.ob j o0 q1;exact⟨pl,q,q2 lT.self rfl r⟩;obtain⟨z1,z2,z3,z4⟩:=c.hr.zr i o u;exact⟨z1,z2,fun j v e l h1 h2=>z3 j v e l (b j h1) h2,z4⟩;rcases p with⟨j,v1,f,g,q,r⟩|p;exact .inl ⟨j,v1,f,g,b j q,r⟩;exact .inr p
def Jm (k a:Nat) (C C':Cx):Prop:=(∀j,j≠k->j≠a->C' j=C j)/\∀id o,C.z id=some o->C'.z id=some o
def Jm.mid {k k2} {C C'} (h:Jm k k2 C C') (hw:C'.w=C.w):∃C1:Cx,lT k C C1/\C1.w=C.w/\lT k2 C1 C'/\C'.w=C1.w:=
 ⟨⟨fun j=>if j=k2 then C j else C' j,C'.z,C.w⟩,⟨fun j a=>by
  show(if j=k2 then C j else C' j)=_
  split
  rfl
  rename_i h2;exact h.1 j a h2,h.2⟩,rfl,⟨fun j a=>by show _=(if j=k2 then C j else C' j);rw[fM3 a],fun _ _ h=>h⟩,hw⟩
def Fv (k a:Nat) (h h':bA):Prop:=(∀j,aK h' j=none↔aK h j=none)/\∀j o',aK h' j=some o'->∃o,aK h j=some o/\gX o'=gX o/\
 ∀{C C':Cx} {L:Nat->aB AO} {lim nS:Nat} {pl:Pl},Jm k a C C'->C'.w=C.w->gO C L lim nS o pl->gO C' L lim nS o' pl
def Fv.of {k k2} {h h1 h2} (a:vN k h h1) (b:vN k2 h1 h2):Fv k k2 h h2:=
 ⟨fun j=>(b.1 j).trans (a.1 j),fun j o' c=>by
  obtain⟨o1,q1,q2,q3⟩:=b.2 j o' c
  obtain⟨o,p1,p2,p3⟩:=a.2 j o1 q1
  refine⟨o,p1,q2.trans p2,fun{C C' L lim nS pl} hs hw d=>?_⟩
  obtain⟨C1,c1,c2,c3,c4⟩:=hs.mid hw
  exact q3 c3 c4 (p3 c1 c2 d)⟩
def Cz:∀{f} {a b},Kz f a b=true->a=b
 |f+1,.nd a b ks,.nd c d ls,h=>by
  simp only[Kz,fF3,bJ,fO3,fH3]at h
  obtain⟨rfl,rfl,hl,h⟩:=h
  have:ks=ls:=by
   apply List.ext_getElem hl;intro i h1 h2
   have:=h (ks[i],ls[i]) (by
    rw[fQ3];exact⟨i,by simp[List.getElem?_zip_eq_some,h1,h2]⟩)
   exact Prod.ext this.1 (Cz this.2)
  rw[this]
def Ql (C:Cx) (k b:Nat) (pl:Pl) (id a len:Nat):Cx:=⟨fun j=>if j=k then some pl else if j=b then some .nil else C j,C.z,fun o=>match C.w o with
 |some (p,i,j)=>if p=a then some (id,len+i,j)else some (p,i,j)
 |none=>none⟩
def gH.move {w w':Nat->aB (Nat×Nat×Nat)} (hn:nS<=c) {B:Nat->Prop} (k:∀b,B b->w b=none) (l:∀o sl,w o=some sl->¬B sl.1->w' o=some sl/\L' o=L o) {sl f:Nat×Nat×Nat} (m:∀o,w o=some sl->w' o=some f/\L' o=L o):
  ∀{d} {t} {x} {y},gH L w lim nS d sl t x y->gH L' w' lim c d f t x y
 |0,_,_,_,h=>h.elim
 |d+1,.nd ty e ks,x,y,h=>by
  obtain⟨rows,h1,h2⟩:=h
  refine⟨rows,h1,?_⟩
  rcases h2 with h2|⟨id,ver,els,k1,k2,k3,k4,kf,k5,k6,k7⟩
  exact .inl h2
  obtain⟨w1,w2⟩:=m id k2
  have g:¬B id:=fun hc=>by rw[k id hc]at k2;cases k2
  refine .inr ⟨id,ver,els,k1,w1,k3,by omega,kf,w2.trans k5,k6,fun i r r' a b=>⟨(k7 i r r' a b).1,fun j n p a1 b1=>?_⟩⟩
  have:=(k7 i r r' a b).2 j n p a1 b1
  cases hk:gZ ks j with
  |none=>rw[hk]at this;exact this
  |some t=>rw[hk]at this;exact gH.mono hn k l g this
def uN1 (r:dR C n h lim s) {k g id ver e len c ver2 e2 len2 m} {po po2 po'} {h2} {s'} (hg:aK h k=some po) (G:aK h g=some po2) (U:k≠g) (hkl:Fv k g h h2)
  (hs:s.n<=s'.n) (X:Wf s'.h s'.n) (W:Sk s.h s'.h s.n) (u:∀i,i<s.n->i≠id->Sim.look s'.h i=Sim.look s.h i) (d:(id=s.n/\s.n<s'.n)\/∃v e l,C k=some (.atp id v e l)) (F:C g=some (.atp c ver2 e2 len2))
  (A:gO (Ql C k g (.atp id ver e len) id c m) (Sim.look s'.h) lim s'.n po' (.atp id ver e len)) (b6:gX po'=false):
  dR (Ql C k g (.atp id ver e len) id c m) n (dB (dB h2 g (.lst 0 0 true [])) k po') lim s'/\Fr C h s (Ql C k g (.atp id ver e len) id c m) (dB (dB h2 g (.lst 0 0 true [])) k po') s':=by
 have S:Ql C k g (.atp id ver e len) id c m k=some (.atp id ver e len):=fJ3 rfl
 have N:Ql C k g (.atp id ver e len) id c m g=some .nil:=by
  show(if g=k then _ else if g=g then _ else _)=_
  rw[fM3 (Ne.symm U),fJ3 rfl]
 have t:∀j,j≠k->j≠g->Ql C k g (.atp id ver e len) id c m j=C j:=fun j h1 h2=>by
  show(if j=k then _ else if j=g then _ else _)=_
  rw[fM3 h1,fM3 h2]
 have D:∀j po,aK h j=some po->(aK h2 j).isSome=true:=fun j po q=>by
  cases hc:aK h2 j with
  |none=>rw[(hkl.1 j).1 hc]at q;cases q
  |some o=>rfl
 have y:∀j,aK (dB (dB h2 g (.lst 0 0 true [])) k po') j=if j=k then some po' else if j=g then some (.lst 0 0 true [])else aK h2 j:=fun j=>by
  rw[eJ,eJ,eJ];have a:=D k _ hg;have b:=D g _ G;by_cases x:j=k
  grind
  grind
 have H:∀j,aK (dB (dB h2 g (.lst 0 0 true [])) k po') j≠none->aK h j≠none:=fun j q=>by
  rw[y]at q;split at q
  grind
  split at q
  grind
  exact fun hc=>q ((hkl.1 j).2 hc)
 have b4:=(r.hr.lt (by rw[G];simp) F).2;have K:C.w c=none:=r.hr.wn g c _ _ _ (by rw[G];simp) F
 have R:C.w id=none:=by
  rcases d with⟨d,_⟩|⟨v',e',l',d⟩
  cases K:C.w id with
  |none=>rfl
  |some sl=>have:=(r.hr.wb id sl K).1;omega
  exact r.hr.wn k id v' e' l' (by rw[hg];simp) d
 have b5:id<s'.n:=by
  rcases d with⟨d,_⟩|⟨v',e',l',d⟩
  omega;have:=(r.hr.lt (by rw[hg];simp) d).2;omega
 have V:∀j v e l,j≠k->aK h j≠none->C j≠some (.atp id v e l):=by
  intro j v e2 l q hh hc;rcases d with⟨d,_⟩|⟨v',e',l',d⟩
  have:=(r.hr.lt hh hc).2;omega;exact q (r.hr.inj j k id _ _ _ _ _ _ hh (by rw[hg];simp) hc d)
 have Z:∀o,(Ql C k g (.atp id ver e len) id c m).w o≠none->C.w o≠none:=fun o A hc=>by
  apply A;show(match C.w o with|some (p,i,j)=>if p=c then some (id,m+i,j)else some (p,i,j)|none=>none)=none
  rw[hc]
 have Y:∀o sl,C.w o=some sl->¬(sl.1=c)->(Ql C k g (.atp id ver e len) id c m).w o=some sl:=fun o sl A hc=>by
  obtain⟨p,i,j⟩:=sl;show(match C.w o with|some (p,i,j)=>if p=c then some (id,m+i,j)else some (p,i,j)|none=>none)=_
  rw[A];exact fM3 hc
 have T:∀o sl,C.w o=some sl->Sim.look s'.h o=Sim.look s.h o:=fun o sl A=>u o (r.hr.wb o sl A).1 fun x=>by rw[x,R]at A;cases A
 refine⟨⟨⟨fun j o q=>?_,fun j j' i v1 x M v2 e2 l2 a1 a2 a3 a4=>?_,fun i o hz=>?_,fun j i v1 x M a1 a2=>?_,fun i sl hw=>?_,fun i o hz=>?_⟩,fun j pl q=>?_,X,gH3 r.lim hs⟩,⟨W,hs,fun i hi hn=>u i hi (fun x=>hn ?_),fun i hi hn=>?_,fun j o q=>?_,fun _ _ h=>h,fun _ _ h=>.inl h⟩⟩;rw[y]at q;split at q
 grind
 split at q;rename_i x;subst x;cases q;exact⟨_,N,rfl⟩;rename_i O J;obtain⟨o0,q1,qb,q2⟩:=hkl.2 j o q;obtain⟨pl,p1,p2⟩:=r.hr.ob j o0 q1;refine⟨pl,(t j O J).trans p1,?_⟩;have p3:gO ⟨(Ql C k g (.atp id ver e len) id c m).f,C.z,C.w⟩ (Sim.look s.h) lim s.n o pl:=q2 (C:=C) (C':=⟨(Ql C k g (.atp id ver e len) id c m).f,C.z,C.w⟩) ⟨t,fun _ _ h=>h⟩ rfl p2;refine gO.monoB (C:=⟨(Ql C k g (.atp id ver e len) id c m).f,C.z,C.w⟩) (C':=Ql C k g (.atp id ver e len) id c m) hs ⟨fun _ _ h=>h,fun _ _ h=>h⟩ (B:=fun b=>b=c) (fun b hb=>by subst hb;exact K) (fun o sl A hb=>⟨Y o sl A hb,T o sl A⟩) (fun i v1 x M hp hb=>?_) (fun i v1 x M hp=>?_) p3;subst hp;subst hb;exact J (r.hr.inj j g i _ _ _ _ _ _ (by rw[q1];simp) (by rw[G];simp) p1 F);subst hp;exact u i p2.lt.2 (fun e2=>by subst e2;exact V j _ _ _ O (by rw[q1];simp) p1)
 have nk:∀{j v e' l' i},Ql C k g (.atp id ver e len) id c m j=some (.atp i v e' l')->j≠k->C j=some (.atp i v e' l'):=fun{j v e' l' i} q h1=>by
  by_cases b:j=g
  grind
  grind
 by_cases b1:j=k
 grind
 by_cases b2:j'=k
 grind
 exact r.hr.inj j j' i v1 x M v2 e2 l2 (H j a1) (H j' a2) (nk a3 b1) (nk a4 b2);obtain⟨z1,z2,z3,z4⟩:=r.hr.zr i o hz;have P:i≠id:=fun x=>by grind
 refine⟨(u i z2 P).trans z1,gN3 z2 hs,fun j v e' l h1 h2=>?_,z4⟩;by_cases b1:j=k
 grind
 grind
 have:C.w i=none:=by
  by_cases b1:j=k
  grind
  by_cases b2:j=g
  grind
  exact r.hr.wn j i v1 x M (H j a1) ((t j b1 b2).symm.trans a2)
 show(match C.w i with|some (p,i,j)=>if p=c then some (id,m+i,j)else some (p,i,j)|none=>none)=none
 rw[this];have E:(match C.w i with|some (p,i,j)=>if p=c then some (id,m+i,j)else some (p,i,j)|none=>none)=some sl:=hw;cases hc:C.w i with
 |none=>rw[hc]at E;cases E
 |some sl0=>
  obtain⟨p,a,b⟩:=sl0;have:=r.hr.wb i _ hc;rw[hc]at E;simp only at E;split at E
  grind
  grind
 have:=r.hr.wz i o hz;show(match C.w i with|some (p,i,j)=>if p=c then some (id,m+i,j)else some (p,i,j)|none=>none)=none
 rw[this];by_cases b1:j=k;subst b1;obtain⟨b0,k1,_⟩:=r.hr.ob j _ hg;exact r.dom j b0 k1;by_cases b2:j=g;subst b2;exact r.dom j _ F;exact r.dom j pl ((t j b1 b2).symm.trans q);subst x;rcases d with⟨d,_⟩|⟨v',e',l',d⟩
 omega;exact .inl ⟨k,v',e',l',by rw[hg];simp,d⟩;rcases hn with⟨j,v1,x,M,k1,L⟩|hn;by_cases b1:j=k;subst b1;rw[S]at L;cases L;rcases d with⟨d,_⟩|⟨v',e',l',d⟩
 omega;exact .inl ⟨j,v',e',l',by rw[hg];simp,d⟩;by_cases b2:j=g
 grind
 exact .inl ⟨j,v1,x,M,H j k1,(t j b1 b2).symm.trans L⟩;exact .inr (Z i hn);rw[y];by_cases b1:j=k
 grind
 by_cases b2:j=g;subst b2;exact⟨.lst 0 0 true [],by simp[b1],fun h=>by cases h⟩;cases hc:aK h2 j with
 |none=>rw[(hkl.1 j).1 hc]at q;cases q
 |some o'=>
  obtain⟨o0,q1,qb,_⟩:=hkl.2 j o' hc;rw[q]at q1;cases q1;exact⟨o',by simp[b1,b2],fun h=>⟨by rw[<-qb];exact h,t j b1 b2⟩⟩
def xN1 {k c} {e e1 e2} (a:gI1 k e e1) (b:gI1 c e1 e2):∀i w,fQ e2 i=some w->∃v,fQ e i=some v/\∀{C C'} {y},Jm k c C C'->RV C v y->RV C' w y:=fun i w hw=>by
 obtain⟨v1,q1,q2⟩:=b i w hw
 obtain⟨v,p1,p2⟩:=a i v1 q1
 refine⟨v,p1,fun{C C' y} hs hv=>?_⟩
 have c1:lT k C ⟨fun j=>if j=c then C j else C' j,C'.z,C.w⟩:=⟨fun j d=>by
  show(if j=c then C j else C' j)=_
  split
  rfl
  rename_i h2;exact hs.1 j d h2,hs.2⟩
 have c2:lT c ⟨fun j=>if j=c then C j else C' j,C'.z,C.w⟩ C':=⟨fun j d=>by show _=(if j=c then C j else C' j);rw[fM3 d],fun _ _ h=>h⟩
 exact q2 c2 (p2 c1 hv)
def cJ2 (g:dR C n h lim s) {k d} {po po2} {h2} (hg:aK h k=some po) (u:aK h d=some po2) (y:k≠d) (hkl:Fv k d h h2) (hb:gX po=false)
  (A:∀pl,gO C (Sim.look s.h) lim s.n po pl->gO (mv C d .nil) (Sim.look s.h) lim s.n po pl):
  dR (mv C d .nil) n (dB (dB h2 d (.lst 0 0 true [])) k po) lim s/\Fr C h s (mv C d .nil) (dB (dB h2 d (.lst 0 0 true [])) k po) s:=by
 have q:∀j po,aK h j=some po->(aK h2 j).isSome=true:=fun j po c=>by
  cases hc:aK h2 j with
  |none=>rw[(hkl.1 j).1 hc]at c;cases c
  |some o=>rfl
 have f:∀j,aK (dB (dB h2 d (.lst 0 0 true [])) k po) j=if j=k then some po else if j=d then some (.lst 0 0 true [])else aK h2 j:=fun j=>by
  rw[eJ,eJ,eJ];have a:=q k _ hg;have b:=q d _ u;by_cases r:j=k
  grind
  grind
 have p:∀j,aK (dB (dB h2 d (.lst 0 0 true [])) k po) j≠none->aK h j≠none:=fun j c=>by
  rw[f]at c;split at c
  grind
  split at c
  grind
  exact fun hc=>c ((hkl.1 j).2 hc)
 have m:∀{j t v e l},(mv C d .nil) j=some (.atp t v e l)->C j=some (.atp t v e l):=fun{j t v e l} c=>by
  by_cases b:j=d;subst b;rw[qB]at c;cases c;exact((fW C d _).1 j b).symm.trans c
 refine⟨⟨⟨fun j o c=>?_,fun j F i v1 r x v2 e2 K a1 a2 a3 a4=>g.hr.inj j F i v1 r x v2 e2 K (p j a1) (p F a2) (m a3) (m a4),fun i o J=>?_,fun j i v1 r x a1 a2=>g.hr.wn j i v1 r x (p j a1) (m a2),g.hr.wb,g.hr.wz⟩,fun j pl c=>?_,g.wf,g.lim⟩,⟨.refl _ _,fI3 _,fun _ _ _=>rfl,fun i hi z=>?_,fun j o c=>?_,fun _ _ h=>h,fun _ _ h=>.inl h⟩⟩;rw[f]at c;split at c;rename_i r;subst r;cases c;obtain⟨pl,p1,p2⟩:=g.hr.ob j _ hg;exact⟨pl,((fW C d _).1 j y).trans p1,A pl p2⟩;split at c;rename_i r;subst r;cases c;exact⟨_,qB C j _,rfl⟩;rename_i H w;obtain⟨o0,q1,G,q2⟩:=hkl.2 j o c;obtain⟨pl,p1,p2⟩:=g.hr.ob j o0 q1;exact⟨pl,((fW C d _).1 j w).trans p1,q2 ⟨fun i h1 h2=>(fW C d _).1 i h2,fun _ _ h=>h⟩ rfl p2⟩;obtain⟨z1,z2,z3,z4⟩:=g.hr.zr i o J;exact⟨z1,z2,fun j v e' l h1 h2=>z3 j v e' l (p j h1) (m h2),z4⟩;by_cases b:j=d;subst b;obtain⟨E,B,_⟩:=g.hr.ob j _ u;exact g.dom j E B;exact g.dom j pl (((fW C d _).1 j b).symm.trans c);rcases z with⟨j,v1,r,x,B,D⟩|z;exact .inl ⟨j,v1,r,x,p j B,m D⟩;exact .inr z;rw[f];by_cases b1:j=k
 grind
 by_cases b2:j=d;subst b2;exact⟨.lst 0 0 true [],by simp[b1],fun h=>by cases h⟩;cases hc:aK h2 j with
 |none=>rw[(hkl.1 j).1 hc]at c;cases c
 |some o'=>
  obtain⟨o0,q1,G,_⟩:=hkl.2 j o' hc;rw[c]at q1;cases q1;exact⟨o',by simp[b1,b2],fun h=>⟨by rw[<-G];exact h,(fW C d _).1 j b2⟩⟩
def TC.nohole {C C'} {L} {nS d id i j} {ks} {a} {b} (hw:C'.w=C.w) (h:TC C L lim nS d id ks [] i j a b):TC C' L lim nS d id ks [] i j a b:=by
 unfold TC at h ⊢;cases hk:gZ ks j with
 |none=>rw[hk]at h;exact h
 |some t=>
  rw[hk]at h;rcases h with⟨⟨x,c⟩,_⟩|⟨h1,h⟩
  cases c
  grind
def TC.upd {C} {L} {nS d d' id i j} {ks} {hs} {a} {b} (hd:d<=d') (h:TC C L lim nS d id ks hs i j a b):TC C L lim nS d' id ks hs i j a b:=by
 unfold TC at h ⊢;cases hk:gZ ks j with
 |none=>rw[hk]at h;exact h
 |some t=>
  rw[hk]at h;simp only at h ⊢;rcases h with h|⟨h1,h⟩
  exact .inl h;exact .inr ⟨h1,h.up hd⟩
def gL1 (G:dR C n h lim s) {b k F:Nat} {y1:AV} {tt:TD} {rows:aA (aA PV)} {hs:aA (Nat×Nat×PV)} {e8:eT} {K:gL->bA->aB R} {r:R} (he:eU C e t) (hd:d<t.length) (h1:RV C (.own k) y1) (h2:RV C (.own F) y2)
  (hg:aK h k=some (.tr tt rows hs)) (L:aK h F=some e8) (hk:fB1 e h d ty es kill k tt rows hs F e8 K=some r):
  ∃C' e' h' out,K e' h'=some r/\doOp (Sim.look s.h) lim s.n (.append ty es b zero false) [y1,y2]=some out/\dR C' n h' lim (out.apply s)/\eU C' e' (t.set d out.v)/\Fr C h s C' h' (out.apply s):=by
 unfold fB1 at hk;split at hk;rename_i ty' es' ks t2 f;by_cases hc:((Nat.beq es' es&&Nat.beq ty' ty)&&(Kz 8 t2 (.nd ty' es' ks)&& !(Nat.beq k F)))=true;simp only[hc,fS3,cF,fC3]at hk;simp only[fF3,bJ,fO3,fX3,gO3]at hc;obtain⟨⟨rfl,rfl⟩,d6,Y⟩:=hc;have d6:=Cz d6;subst d6;obtain⟨d7,H,hk⟩:=hk;rw[gE]at hk;obtain⟨e2,hk,f4⟩:=kN _ _ _ hk;obtain⟨B,hk,e4⟩:=kN _ _ _ hk;obtain⟨h4,hk,f5⟩:=lL _ _ _ hk;obtain⟨h5,hk,e5⟩:=lL _ _ _ hk;have hk:=eD _ _ _ _ _ hk;have hk:=eD _ _ _ _ _ hk;have hkl:=Fv.of f5 e5;have f2:=xN1 f4 e4;unfold appRows at H;split at H;rename_i J;obtain rfl:rows++f=d7:=gC3 H
 have W:∀{C':Cx},Jm k F C C'->∀i w,fQ B i=some w->∃z,t[i]? =some z/\RV C' w z/\i≠d:=by
  intro C' D i w hw;obtain⟨v,q1,q2⟩:=f2 i w hw;obtain⟨z,p1,p2,p3⟩:=he.edel (d::kill) i v q1;exact⟨z,p1,q2 D p2,fun e1=>p3 (by simp[e1])⟩
 have d3:∀S out,Sim.rowsOf (Sim.look s.h) es' y2=some S->S.length=f.length->Sim.appendTo (Sim.look s.h) lim s.n ty' es' y1 S=some out->(∀z id ver off len cap,out.v=.sl z id ver off len cap->len<=Sim.maxRoom)->doOp (Sim.look s.h) lim s.n (.append ty' es' b zero false) [y1,y2]=some out:=by
  intro S out T hnl N hl;simp only[doOp,Sim.appRows,fR3,gT3,T,N];split;rename_i hv;rw[fJ3 ⟨hl _ _ _ _ _ _ hv,by rw[hnl];omega⟩];rfl
 have d5:∀(C':Cx),(∀j,j≠k->j≠F->C' j=C j)->C'.z=C.z->Jm k F C C':=fun C' h1 h2=>⟨h1,fun _ _ h=>by rw[h2];exact h⟩
 have g9:∀{id ver B len},C k=some (.atp id ver B len)->y1=.sl B id ver 0 len none/\B=es'/\len=rows.length:=fun{id ver B len} D=>by
  rcases hJ h1 with⟨id',b4,h3,b0,U,rfl⟩|⟨U,_⟩
  rw[D]at U;cases U;obtain⟨_,_,a,b,_⟩:=nA G hg D;exact⟨rfl,a,b⟩;rw[D]at U;cases U
 by_cases V:f=[];subst V
 have T:Sim.rowsOf (Sim.look s.h) es' y2=some []:=by
  rcases hJ h2 with⟨u,b5,q,e7,E,rfl⟩|⟨E,rfl⟩
  obtain⟨_,_,rfl,d4,_,g,d2,b9,O,_⟩:=nA G L E;subst d4;simp only[Sim.rowsOf,b9];rw[fJ3 ⟨by trivial,by trivial,by omega⟩];simp;rfl
 obtain⟨m1,m2⟩:=cJ2 G hg L Y hkl rfl (fun pl N=>by
  cases pl with
  |nil=>exact N
  |atp id ver e' len=>
   obtain⟨a1,a2,a3,a4,a5,els,d1,a6,a7,a8⟩:=N;exact⟨a1,a2,a3,a4,a5,els,d1,a6,a7,fun i r r' c1 c2=>⟨(a8 i r r' c1 c2).1,fun j x y c3 c4=>TC.nohole (C:=C) (C':=mv C F .nil) rfl ((a8 i r r' c1 c2).2 j x y c3 c4)⟩⟩)
 rw[hS3]at hk;have e0:(mv C F .nil) k=C k:=(fW C F _).1 k Y
 have hv:RV (mv C F .nil) (.own k) y1:=by
  rcases hJ h1 with⟨id,ver,B,len,D,rfl⟩|⟨D,rfl⟩
  exact .own (e0.trans D);exact .ownn (e0.trans D) rfl
 refine⟨_,_,_,{v:=y1},hk,d3 [] _ T rfl ?_ ?_,m1,.put hd hv (W (d5 _ (fun j _ h2=>(fW C F _).1 j h2) rfl)),m2⟩;rcases hJ h1 with⟨id,ver,B,len,D,rfl⟩|⟨D,rfl⟩
 obtain⟨M,_,rfl,hl,_,els,d1,hL,f6,_⟩:=nA G hg D;simp only[Sim.appendTo,hL];rw[fJ3 ⟨by trivial,by trivial,by trivial,by omega⟩];rfl;rfl;intro z id ver off len cap hv;rcases hJ h1 with⟨id',b4,B,b0,D,rfl⟩|⟨D,rfl⟩
 obtain⟨M,_,rfl,hl,_⟩:=nA G hg D;simp only[AV.sl.injEq]at hv;have:=J.1;omega;cases hv;have f8:f.length≠0:=fun h=>V (hO3 h);rcases hJ h2 with⟨u,b5,q,e7,E,rfl⟩|⟨E,rfl⟩
 obtain⟨f7,g7,rfl,d4,d9,g,d2,b9,⟨O,h0⟩,b6⟩:=nA G L E;subst d4
 have T:Sim.rowsOf (Sim.look s.h) q (.sl q u b5 0 f.length none)=some (g.take f.length):=by
  simp only[Sim.rowsOf,b9];rw[fJ3 ⟨by trivial,by trivial,by omega⟩,hE3]
 have hnl:(g.take f.length).length=f.length:=by simp[hI3 O]
 have Z:(g.take f.length).isEmpty=false:=by
  cases hx:g.take f.length with
  |nil=>rw[hx]at hnl;simp at hnl;omega
  |cons a r=>rfl
 have g8:(g.take f.length).length=1:=by have:=J.2 rfl;omega
 have g6:C.w u=none:=G.hr.wn F u _ _ _ (by rw[L];simp) E
 have b8:∀{id ver:Nat} {L':Nat->aB AO} {b7:Nat} {els l:aA (aA AV)} {d1:Nat},s.n<=b7->lim<=id->id<b7->id≠u->C.w id=none->(∀o sl,C.w o=some sl->L' o=Sim.look s.h o)->
   (∀(i:Nat) (r:aA PV) (r':aA AV),rows[i]? =some r->els[i]? =some r'->r.length=r'.length/\∀(j:Nat) (a:PV) (b:AV),r[j]? =some a->r'[j]? =some b->TC C (Sim.look s.h) lim s.n d1 id ks [] i j a b)->
   L' id=some (.arr false ty' q ver l)->((rows++f).length<=l.length/\SL (rows++f).length l)->(∀i,i<rows.length->l[i]? =els[i]?)->(∀i,i<f.length->l[rows.length+i]? =g[i]?)->
   gO (Ql C k F (.atp id ver q (rows++f).length) id u rows.length) L' lim b7 (.tr (.nd ty' q ks) (rows++f) []) (.atp id ver q (rows++f).length):=by
  intro id ver L' b7 els l d1 q1 q2 q3 q4 q5 q6 q7 q8 q9 q10 q11;refine⟨q2,q3,rfl,rfl,d9,l,max d1 d2,q8,q9,fun i r r' c1 c2=>?_⟩
  have hW:∀o sl,C.w o=some sl->¬(sl.1=u)->(Ql C k F (.atp id ver q (rows++f).length) id u rows.length).w o=some sl/\L' o=Sim.look s.h o:=fun o sl N hn=>by
   obtain⟨p,a,c⟩:=sl;refine⟨?_,q6 o _ N⟩;show(match C.w o with|some (p,i,j)=>if p=u then some (id,rows.length+i,j)else some (p,i,j)|none=>none)=_
   rw[N];exact fM3 hn
  have hB:∀x,x=u->C.w x=none:=fun x hx=>by rw[hx];exact g6
  by_cases hi:i<rows.length;rw[iD3 hi]at c1;rw[q10 i hi]at c2;obtain⟨g1,g2⟩:=q7 i r r' c1 c2;refine⟨g1,fun j a c g3 g4=>?_⟩;have:=(g2 j a c g3 g4).upd (Nat.le_max_left d1 d2);unfold TC at this ⊢;cases hkd:gZ ks j with
  |none=>rw[hkd]at this;exact this
  |some t0=>
   rw[hkd]at this;rcases this with⟨⟨x,hx⟩,_⟩|⟨h1,this⟩
   cases hx;exact .inr ⟨h1,gH.mono q1 hB hW q4 this⟩
  rw[iL3 (by omega)]at c1;have f1:i-rows.length<f.length:=(fE3.1 c1).1;have c3:=q11 (i-rows.length) f1;rw[show rows.length+(i-rows.length)=i by omega,c2]at c3;obtain⟨g1,g2⟩:=b6 (i-rows.length) r r' c1 c3.symm;refine⟨g1,fun j a c g3 g4=>?_⟩;have:=(g2 j a c g3 g4).upd (Nat.le_max_right d1 d2);unfold TC at this ⊢;cases hkd:gZ ks j with
  |none=>rw[hkd]at this;exact this
  |some t0=>
   rw[hkd]at this;rcases this with⟨⟨x,hx⟩,_⟩|⟨h1,this⟩
   cases hx;refine .inr ⟨(fun⟨x,hx⟩=>(by cases hx)),gH.move q1 hB hW (fun o N=>⟨?_,q6 o _ N⟩) this⟩;show(match C.w o with|some (p,i,j)=>if p=u then some (id,rows.length+i,j)else some (p,i,j)|none=>none)=_
   rw[N];show(if u=u then _ else _)=_
   rw[fJ3 rfl,show rows.length+(i-rows.length)=i by omega]
 rcases hJ h1 with⟨id,ver,B,len,D,rfl⟩|⟨D,rfl⟩
 obtain⟨M,f0,rfl,hl,_,els,d1,hL,⟨f6,g5⟩,hr⟩:=nA G hg D;subst hl;have e6:id≠u:=fun h=>by subst h;exact Y (G.hr.inj k F id _ _ _ _ _ _ (by rw[hg];simp) (by rw[L];simp) D E)
 have P:=G.hr.wn k id _ _ _ (by rw[hg];simp) D
 have fin:∀(A:Nat) (l:aA (aA AV)),Sim.appendTo (Sim.look s.h) lim s.n ty' B (.sl B id ver 0 rows.length none) (g.take f.length)=some {v:=.sl B id A 0 (rows.length+(g.take f.length).length) none,up:=some (id,.arr false ty' B A l)}->
   ((rows++f).length<=l.length/\SL (rows++f).length l)->(∀i,i<rows.length->l[i]? =els[i]?)->(∀i,i<f.length->l[rows.length+i]? =g[i]?)->
   ∃C' e' h' out,K e' h'=some r/\doOp (Sim.look s.h) lim s.n (.append ty' B b zero false) [.sl B id ver 0 rows.length none,.sl B u b5 0 f.length none]=some out/\dR C' n h' lim (out.apply s)/\eU C' e' (t.set d out.v)/\Fr C h s C' h' (out.apply s):=by
  intro A l d0 g1 g2 g3
  have X:∀i,i≠id->Sim.look (upd s.h id (.arr false ty' B A l)) i=Sim.look s.h i:=fun i hi=>by
   rw[Sim.look_upd];simp[hi]
  obtain⟨m1,m2⟩:=uN1 (id:=id) (ver:=A) (e:=B) (len:=(rows++f).length) (m:=rows.length) (po':=.tr (.nd ty' B ks) (rows++f) []) (s':={h:=upd s.h id (.arr false ty' B A l),n:=s.n}) G hg L Y hkl
   (fI3 _) (G.wf.upd _ _) (.upd _ _ _ _) (fun i _ hi=>X i hi) (.inr ⟨_,_,_,D⟩) E
   (b8 (els:=els) (d1:=d1) (fI3 _) M f0 e6 P (fun o sl N=>X o fun h=>by rw[h,P]at N;cases N) hr (by rw[Sim.look_upd];simp[hL]) g1 g2 g3) rfl
  refine⟨_,_,_,_,hk,d3 _ _ T hnl d0 ?_,m1,.put hd ?_ (W (d5 _ (fun j h1 h2=>by show(if j=k then _ else if j=F then _ else _)=_;rw[fM3 h1,fM3 h2]) rfl)),m2⟩;intro z id' b4 off b0 cap hv;simp only[AV.sl.injEq]at hv;have:=J.1;omega;have:RV (Ql C k F (.atp id A B (rows++f).length) id u rows.length) (.own k) (.sl B id A 0 (rows++f).length none):=.own (fJ3 rfl);rw[hH3]at this;rw[hnl];simpa using this
 by_cases e9:rows.length=els.length
 refine fin (ver+1) (els++g.take f.length) ?_ ⟨by simp;omega,.exact (by simp;omega)⟩ (fun i hi=>by rw[iD3 (by omega)]) (fun i hi=>by
  rw[iL3 (by omega),gA3,fJ3 (by omega),show rows.length+i-els.length=i by omega])
 simp only[Sim.appendTo,hL];rw[fJ3 ⟨by trivial,by trivial,by trivial,by omega⟩];simp only[Z,fR3,gT3];rw[fJ3 (by omega),fJ3 ⟨by trivial,M,by trivial⟩];have d8:rows.length+(g.take f.length).length<=els.length:=by omega
 refine fin ver (Sim.setL els rows.length (g.take f.length)) ?_ ⟨by rw[nB];simp;omega,fun i row hi b6=>by
  rw[hH3]at hi;rw[lC (.inr (by omega))]at b6;exact g5 i row (by omega) b6⟩ (fun i hi=>by rw[lC (.inl hi)]) (fun i hi=>by
  rw[rY d8 (by omega) (by omega),show rows.length+i-rows.length=i by omega,gA3,fJ3 hi])
 simp only[Sim.appendTo,hL];rw[fJ3 ⟨by trivial,by trivial,by trivial,by omega⟩];simp only[Z,fR3,gT3];rw[fM3 (by omega),fJ3 ⟨by omega,M⟩];rw[hD3];have f9:=(tV G hg D).1;subst f9
 have d0:Sim.appendTo (Sim.look s.h) lim s.n ty' q (.v (.slice none 0 0)) (g.take f.length)=some {v:=.sl q s.n 0 0 (g.take f.length).length none,new:=some (.arr false ty' q 0 (g.take f.length))}:=by
  simp[Sim.appendTo,Z]
 have X:∀i,i<s.n->Sim.look (.ob s.n (.arr false ty' q 0 (g.take f.length))::s.h) i=Sim.look s.h i:=fun i hi=>by
  rw[gG,fM3 (by omega)]
 have P:C.w s.n=none:=by
  cases hw:C.w s.n with
  |none=>rfl
  |some sl=>have:=(G.hr.wb s.n sl hw).1;omega
 obtain⟨m1,m2⟩:=uN1 (id:=s.n) (ver:=0) (e:=q) (len:=([]++f).length) (m:=0) (po':=.tr (.nd ty' q ks) ([]++f) []) (s':={h:=.ob s.n (.arr false ty' q 0 (g.take f.length))::s.h,n:=s.n+1}) G hg L Y hkl
  (by show s.n<=s.n+1;omega) ⟨by simp,G.wf⟩ (.new _ _ _) (fun i hi _=>X i hi) (.inl ⟨rfl,by show s.n<s.n+1;omega⟩) E
  (b8 (els:=[]) (d1:=0) (by show s.n<=s.n+1;omega) G.lim (by show s.n<s.n+1;omega) (by omega) P (fun o sl N=>X o (G.hr.wb o sl N).1) (fun i r r' c1=>by simp at c1) (by rw[gG,fJ3 rfl]) ⟨by simp[hI3 O],.exact (by simp[hI3 O])⟩ (fun i hi=>by simp at hi) (fun i hi=>by
   rw[gA3,fJ3 (by simpa using hi)];simp)) rfl
 refine⟨_,_,_,_,hk,d3 _ _ T hnl d0 ?_,m1,.put hd ?_ (W (d5 _ (fun j h1 h2=>by show(if j=k then _ else if j=F then _ else _)=_;rw[fM3 h1,fM3 h2]) rfl)),m2⟩;intro z id' b4 off b0 cap hv;simp only[AV.sl.injEq]at hv;have:=J.1;omega;have:RV (Ql C k F (.atp s.n 0 q ([]++f).length) s.n u 0) (.own k) (.sl q s.n 0 0 ([]++f).length none):=.own (fJ3 rfl);rw[hnl];simpa using this;exact absurd (tV G L E).1 V;cases H;simp only[iX3]at hc;simp only[hc]at hk;exact aD hk;exact aD hk
def mY1 (p:dR C n h lim s) {b:Nat} {x1 x2:PV} {S:AV} {K:gL->bA->aB R} {r:R} (he:eU C e t) (hd:d<t.length) (h1:RV C x1 S) (h2:RV C x2 y2)
  (hk:wU1 e h d ty es kill x1 x2 K=some r):
  ∃C' e' h' out,K e' h'=some r/\doOp (Sim.look s.h) lim s.n (.append ty es b zero false) [S,y2]=some out/\dR C' n h' lim (out.apply s)/\eU C' e' (t.set d out.v)/\Fr C h s C' h' (out.apply s):=by
 unfold wU1 at hk;cases x1 with
 |own k=>
  simp only[iC,fC3]at hk;obtain⟨ob,hg,hk⟩:=hk;cases ob with
  |lst ty' es' g rows=>
   have hz:=gJ1 p hk h2;clear hk;obtain⟨new,a,hk,d0,y⟩:=hz;by_cases hc:(Nat.beq es' es&&(Nat.beq ty' ty&& !(iA ty')))=true;simp only[hc,fS3,cF,fC3]at hk;simp only[fF3,bJ,fO3,fX3]at hc;obtain⟨rfl,rfl,A⟩:=hc;have B:Ct ty'=ty':=by simp[Ct,A]
   obtain⟨P,j,hk⟩:=hk;rw[gE]at hk;obtain⟨e2,hk,b7⟩:=kN _ _ _ hk;obtain⟨d7,hk,M⟩:=lL _ _ _ hk;have hk:=eD _ _ _ _ _ hk;unfold appRows at j;split at j;rename_i O;obtain rfl:rows++new=P:=gC3 j
   have u:∀{C':Cx},lT k C C'->∀i w,fQ e2 i=some w->∃z,t[i]? =some z/\RV C' w z/\i≠d:=by
    intro C' o i w hw;obtain⟨v,q1,q2⟩:=b7 i w hw;obtain⟨z,p1,p2,p3⟩:=he.edel (d::kill) i v q1;exact⟨z,p1,q2 o p2,fun e1=>p3 (by simp[e1])⟩
   have H:∀out,Sim.appendTo (Sim.look s.h) lim s.n ty' es' S a=some out->(∀z id ver off len cap,out.v=.sl z id ver off len cap->len<=Sim.maxRoom)->doOp (Sim.look s.h) lim s.n (.append ty' es' b zero false) [S,y2]=some out:=by
    intro out V hl;simp only[doOp,Sim.appRows,fR3,gT3,d0,V];split;rename_i hv;rw[fJ3 ⟨hl _ _ _ _ _ _ hv,by rw[<-y.1];omega⟩];rfl
   have hlen:=y.1;by_cases E:a=[]
   ·
    subst E;have U:new=[]:=by simpa using hlen
    subst U;rw[hS3]at hk;obtain⟨Y,Z⟩:=Xn p hg M (show gX (.lst ty' es' g rows)=false from A);refine⟨C,_,_,{v:=S},hk,H _ ?_ ?_,Y,.put hd h1 (u lT.self),Z⟩;rcases lB h1 with⟨id,ver,m,len,o,rfl⟩|⟨o,hy⟩
    obtain⟨l,rfl,hl,els,G,hr,b8,_⟩:=lS p hg o;rw[B]at G;simp only[Sim.appendTo,G];rw[fJ3 ⟨by trivial,by trivial,by trivial,by omega⟩];rfl;rcases hy with rfl|rfl<;>rfl;intro z id ver off len cap hv;rcases lB h1 with⟨id',d5,m,d4,o,rfl⟩|⟨o,hy⟩
    obtain⟨l,rfl,hl,_⟩:=lS p hg o;cases hv;omega
    grind
   have x:a.isEmpty=false:=by cases a<;>simp_all
   rcases lB h1 with⟨id,ver,m,len,o,rfl⟩|⟨o,hy⟩
   obtain⟨l,rfl,hl,els,G,hr,⟨b8,d2⟩,b4⟩:=lS p hg o;rw[B]at G;subst hl;have b6:=(p.hr.lt (by rw[hg];simp) o).2
   have fin:∀(f:Nat) (c:aA (aA AV)) (out:Out),out={v:=.sl m id f 0 (rows.length+a.length) none,up:=some (id,.arr false ty' m f c)}->
     Sim.appendTo (Sim.look s.h) lim s.n ty' m (.sl m id ver 0 rows.length none) a=some out->
     RR (rows++new) (c.take (rows++new).length)->((rows++new).length<=c.length/\SL (rows++new).length c)->(g=false->c.length=(rows++new).length)->
     ∃C' e' h' out,K e' h'=some r/\doOp (Sim.look s.h) lim s.n (.append ty' m b zero false) [.sl m id ver 0 rows.length none,y2]=some out/\dR C' n h' lim (out.apply s)/\eU C' e' (t.set d out.v)/\Fr C h s C' h' (out.apply s):=by
    intro f c out V b0 X T L;have D:(out.apply s).h=upd s.h id (.arr false ty' m f c)/\(out.apply s).n=s.n:=by subst V;exact⟨rfl,rfl⟩
    have N:∀i,i≠id->Sim.look (upd s.h id (.arr false ty' m f c)) i=Sim.look s.h i:=fun i hi=>by
     rw[Sim.look_upd];simp[hi]
    have q:out.apply s={h:=upd s.h id (.arr false ty' m f c),n:=s.n}:=by subst V;rfl
    obtain⟨Y,Z⟩:=Qk (id:=id) (ver:=f) (e:=m) (len:=(rows++new).length) (po2:=.lst ty' m g (rows++new)) (s':={h:=upd s.h id (.arr false ty' m f c),n:=s.n}) p hg M
     (fI3 _) (p.wf.upd _ _) (.upd _ _ _ _) (fun i _ hi=>N i hi) (.inr ⟨_,_,_,o⟩) ⟨l,b6,rfl,rfl,c,by rw[Sim.look_upd];simp[G,B],X,T,L⟩ A
    refine⟨_,_,_,out,hk,H out b0 ?_,by rw[q];exact Y,?_,by rw[q];exact Z⟩
    grind
    subst V;refine .put hd ?_ (u (fW C k _));have:RV (mv C k (.atp id f m (rows++new).length)) (.own k) (.sl m id f 0 (rows++new).length none):=.own (qB C k _);rw[hH3,hlen]at this;simpa[hlen]using this
   by_cases J:rows.length=els.length;refine fin (ver+1) (els++a) _ rfl ?_ ?_ ?_ ?_;simp only[Sim.appendTo,G];rw[fJ3 ⟨by trivial,by trivial,by trivial,by omega⟩];simp only[x,fR3,gT3];rw[fJ3 (by omega),fJ3 ⟨by trivial,l,by trivial⟩];rw[gW3 (by simp;omega)];refine RR.append ?_ y;rw[gW3 (by omega)]at hr;exact hr;exact⟨by simp;omega,.exact (by simp;omega)⟩;intro _;simp;omega
   have b5:g=true:=by
    cases g with
    |true=>rfl
    |false=>exact absurd (b4 rfl).symm J
   have d6:=O.2 b5
   have d3:a.length=1:=by
    have:a.length≠0:=by simpa using E
    omega
   have F:rows.length+a.length<=els.length:=by omega
   refine fin ver (Sim.setL els rows.length a) _ rfl ?_ ?_ ?_ ?_;simp only[Sim.appendTo,G];rw[fJ3 ⟨by trivial,by trivial,by trivial,by omega⟩];simp only[x,fR3,gT3];rw[fM3 (by omega),fJ3 ⟨by omega,l⟩];rw[hD3];rw[yB els rows.length a F];have e1:(els.take rows.length++a++els.drop (rows.length+a.length)).take (rows++new).length=els.take rows.length++a:=by grind
   rw[e1];exact hr.append y;refine⟨?_,?_⟩;rw[yB els rows.length a F];simp[hlen];omega;intro i row hi W;rw[hH3]at hi;rw[lC (.inr (by omega))]at W;exact d2 i row (by omega) W
   grind
   ·
    have b9:=mZ p hg o;subst b9
    have D:Sim.appendTo (Sim.look s.h) lim s.n ty' es' S a=some {v:=.sl es' s.n 0 0 a.length none,new:=some (.arr false ty' es' 0 a)}:=by
     rcases hy with rfl|rfl<;>simp[Sim.appendTo,x]
    have N:∀i,i<s.n->Sim.look (.ob s.n (.arr false ty' es' 0 a)::s.h) i=Sim.look s.h i:=fun i hi=>by
     rw[gG,fM3 (by omega)]
    obtain⟨Y,Z⟩:=Qk (id:=s.n) (ver:=0) (e:=es') (len:=([]++new).length) (po2:=.lst ty' es' g ([]++new)) (s':={h:=.ob s.n (.arr false ty' es' 0 a)::s.h,n:=s.n+1}) p hg M
     (by show s.n<=s.n+1;omega) ⟨by simp,p.wf⟩ (.new _ _ _) (fun i hi _=>N i hi) (.inl (fI3 _)) ⟨p.lim,by show s.n<s.n+1;omega,rfl,rfl,a,by rw[gG,fJ3 rfl,B],by rw[gW3 (by simp;omega)];exact y,⟨by simp;omega,.exact (by simp;omega)⟩,fun _=>by simp;omega⟩ A
    refine⟨_,_,_,_,hk,H _ D ?_,Y,.put hd ?_ (u (fW C k _)),Z⟩
    grind
    have:RV (mv C k (.atp s.n 0 es' ([]++new).length)) (.own k) (.sl es' s.n 0 0 ([]++new).length none):=.own (qB C k _);simpa[hlen]using this
   cases j
   grind
  |tr tt rows hs=>
   cases x2 with
   |own k2=>
    simp only[fC3]at hk;obtain⟨d8,L,hk⟩:=hk;exact gL1 p he hd h1 h2 hg L hk
   |_=>exact aD hk
  |_=>exact aD hk
 |_=>exact aD hk
def gM1 (c:dR C n h lim s) {k ty2 e2} {g2} {po} {h1} (hg:aK h k=some po) (w:C k=some .nil) (hkl:vN k h h1) (g:iA ty2=false):
  dR C n (dB h1 k (.lst ty2 e2 g2 [])) lim s/\Fr C h s C (dB h1 k (.lst ty2 e2 g2 [])) s:=by
 have p:(aK h1 k).isSome=true:=by
  cases hc:aK h1 k with
  |none=>rw[(hkl.1 k).1 hc]at hg;cases hg
  |some o=>rfl
 have a:∀j,aK (dB h1 k (.lst ty2 e2 g2 [])) j=if j=k then some (.lst ty2 e2 g2 [])else aK h1 j:=fun j=>by
  rw[eJ];simp[p]
 have b:∀j,aK (dB h1 k (.lst ty2 e2 g2 [])) j≠none->aK h j≠none:=fun j d=>by
  rw[a]at d;split at d
  grind
  exact fun hc=>d ((hkl.1 j).2 hc)
 refine⟨⟨⟨fun j o d=>?_,fun j u i v1 f m v2 e2 y a1 a2 a3 a4=>c.hr.inj j u i v1 f m v2 e2 y (b j a1) (b u a2) a3 a4,fun i o x=>?_,fun j i v1 f m a1 a2=>c.hr.wn j i v1 f m (b j a1) a2,c.hr.wb,c.hr.wz⟩,c.dom,c.wf,c.lim⟩,⟨.refl _ _,fI3 _,fun _ _ _=>rfl,fun i hi q=>?_,Lm hg hkl g lT.self,fun _ _ h=>h,fun _ _ h=>.inl h⟩⟩;rw[a]at d;split at d;rename_i f;subst f;cases d;exact⟨.nil,w,rfl⟩;obtain⟨o0,q1,z,q2⟩:=hkl.2 j o d;obtain⟨pl,r,t⟩:=c.hr.ob j o0 q1;exact⟨pl,r,q2 lT.self rfl t⟩;obtain⟨z1,z2,z3,z4⟩:=c.hr.zr i o x;exact⟨z1,z2,fun j v e l h1 h2=>z3 j v e l (b j h1) h2,z4⟩;rcases q with⟨j,v1,f,m,r,t⟩|q;exact .inl ⟨j,v1,f,m,b j r,t⟩;exact .inr q
def aT1 (f:dR C n h lim s) {k:Nat} {hi:Int} {kd:IntKind} {E G:AV} {K:gL->bA->aB R} {r:R} (he:eU C e t) (hd:d<t.length) (h1:RV C (.own k) E) (h2:RV C (.v (.int kd hi)) G)
  (hk:Ui e h d es kill k hi K=some r):
  ∃C' e' h' out,K e' h'=some r/\doOp (Sim.look s.h) lim s.n (.slc es false true false) [E,G]=some out/\dR C' n h' lim (out.apply s)/\eU C' e' (t.set d out.v)/\Fr C h s C' h' (out.apply s):=by
 unfold Ui at hk;simp only[iC,fC3]at hk;obtain⟨ob,hg,hk⟩:=hk;cases ob with
 |lst ty es' g rows=>
  by_cases hc:es'=es
  .subst hc
   cases hfx:iA ty with
   |true=>simp only[hfx,jA3,Bool.and_false,fZ3]at hk;exact aD hk
   |false=>
   simp only[bJ,hB3,hfx,Bool.not_false,Bool.and_true,fS3,cF,fC3,uR]at hk;obtain⟨D,c,hk⟩:=hk;rw[gE]at hk;obtain⟨e2,hk,j⟩:=kN _ _ _ hk;obtain⟨u,hk,l⟩:=lL _ _ _ hk;have hk:=eD _ _ _ _ _ hk;split at c
   .rename_i hb
    obtain⟨b2,b3⟩:=hb;obtain rfl:=gC3 c;rw[iX h2];rcases lB h1 with⟨id,ver,o,len,b,rfl⟩|⟨b,hy⟩
    .obtain ⟨m,rfl,hl,els,F,hr,⟨J,y⟩,H⟩:=lS f hg b
     subst hl;have x:=(f.hr.lt (by rw[hg];simp) b).2;have a:(rows.take hi.toNat).length=hi.toNat:=by simp;omega
     obtain⟨A,B⟩:=Qk (id:=id) (ver:=ver) (e:=o) (len:=(rows.take hi.toNat).length) (po2:=.lst ty o true (rows.take hi.toNat)) (s':=s) (h1:=u) (hg:=hg) (hkl:=l) f
      (fI3 _) f.wf (.refl _ _) (fun i _ _=>rfl) (.inr ⟨_,_,_,b⟩) ⟨m,x,rfl,rfl,els,F,by
       have:=hr.take hi.toNat
       rw[List.take_take,hI3 (by omega)]at this;rw[a];exact this,⟨by rw[a];omega,SL.cut hr y _⟩,fun h=>by cases h⟩ hfx
     refine⟨_,_,_,{v:=.sl o id ver 0 hi.toNat none},hk,?_,A,.put hd ?_ (fun i w hw=>?_),B⟩
     .simp only[doOp,Sim.sliceOp,fR3,gT3,Sim.bounds,Sim.intOf,gB3,F,Sim.roomOf]
      rw[fJ3 ⟨by trivial,by trivial,by omega,b2,by omega,by omega⟩];simp
     .have:=RV.own (C:=mv C k (.atp id ver o (rows.take hi.toNat).length)) (qB C k _)
      rw[a]at this ⊢;exact this
     .obtain ⟨v,q1,q2⟩:=j i w hw
      obtain⟨z,p1,p2,p3⟩:=he.edel (d::kill) i v q1;exact⟨z,p1,q2 (fW C k _) p2,fun p=>p3 (by simp[p])⟩
    .have:=mZ f hg b
     subst this;simp only[fV3,Int.natCast_zero]at b3;obtain rfl:hi=0:=by omega
     obtain⟨A,B⟩:=gM1 (ty2:=ty) (e2:=es') (g2:=true) f hg b l hfx
     obtain rfl:E=.v (.slice none 0 0):=by
      rcases hJ h1 with⟨_,_,_,_,q,_⟩|⟨_,q⟩
      .rw [b]at q;cases q
      .exact q
     refine⟨_,_,_,{v:=.v (.slice none 0 0)},hk,rfl,A,.put hd (.ownn b rfl) (fun i w hw=>?_),B⟩;obtain⟨v,q1,q2⟩:=j i w hw;obtain⟨z,p1,p2,p3⟩:=he.edel (d::kill) i v q1;exact⟨z,p1,q2 lT.self p2,fun p=>p3 (by simp[p])⟩
   .cases c
  .simp only[bJ,gJ3 hc,Bool.false_and,fZ3]at hk;exact aD hk
 |_=>exact aD hk
end
end Go.P
namespace Go.P
open Go.Sim (AV AO Hp mQ upd St IC IX Ex iV CK Wf Out doOp mO exec)
variable {d lim n:Nat}
section
variable {R:Type} {C:Cx} {h:bA} {s:Hp}
def gN1 (q:dR C n h lim s) {m} {k} {v} {ob} {x} (hv:Ff v=some (m,k)) (hg:aK h k=some ob) (hf:Wr m ob=some x) {y} (hy:RV C v y):
  (∃id ver e len o,C k=some (.atp id ver e len)/\Sim.look s.h id=some o/\nbO o=true/\∀z f,(∀i o,C.z i=some o->z i=some o)->z id=some o->RV ⟨f,z,C.w⟩ x y)\/(C k=some .nil/\∀C':Cx,RV C' x y):=by
 cases v with
 |own k'=>
  cases hv;cases ob with
  |lst ty e g rows=>
   unfold Wr at hf;cases hfx:iA ty with
   |true=>simp only[hfx,fS3]at hf;cases hf
   |false=>
   simp only[hfx,fZ3]at hf;cases hf;have j:Ct ty=ty:=by simp[Ct,hfx]
   rcases hJ hy with⟨id,ver,l,len,c,rfl⟩|⟨c,rfl⟩
   obtain⟨_,rfl,hlen,els,p,hr,d,_⟩:=lS q hg c;subst hlen;rw[j]at p;refine .inl ⟨id,ver,l,_,_,c,p,rfl,fun z f t hi=>.zs (.inr ⟨l,rows,id,ver,ty,els,rfl,rfl,hi,d,fun i r r' a b=>?_⟩)⟩;refine hr.2 i r r' a ?_;have:i<rows.length:=(fE3.1 a).1;rw[gA3,fJ3 this];exact b;have:=mZ q hg c;subst this;exact .inr ⟨c,fun C'=>.zs (RZ.of .isn)⟩
  |_=>cases hf
 |map k'=>
  cases hv;cases ob with
  |_=>cases hf
 |_=>cases hv
def zxt (C:Cx) (k id:Nat) (o:AO):Cx:=⟨fun j=>if j=k then some .nil else C j,fun i=>if i=id then some o else C.z i,C.w⟩
def nU2 (f:dR C n h lim s) {k id ver e len} {po} {h1} {o} (hg:aK h k=some po) (u:C k=some (.atp id ver e len)) (M:Sim.look s.h id=some o) (F:nbO o=true) (hkl:vN k h h1):
  dR (zxt C k id o) n (dB h1 k (.lst 0 0 true [])) lim s/\Fr C h s (zxt C k id o) (dB h1 k (.lst 0 0 true [])) s/\lT k C (zxt C k id o):=by
 have D:=(f.hr.lt (by rw[hg];simp) u).2
 have H:C.z id=none:=by
  cases d:C.z id with
  |none=>rfl
  |some o'=>exact absurd u ((f.hr.zr id o' d).2.2.1 k ver e len (by rw[hg];simp))
 have x:∀i o',C.z i=some o'->(zxt C k id o).z i=some o':=fun i o' d=>by
  have:i≠id:=fun r=>by rw[r,H]at d;cases d
  simp only[zxt,fM3 this];exact d
 have c:lT k C (zxt C k id o):=⟨fun j g=>fM3 g,x⟩
 have A:(zxt C k id o) k=some .nil:=fJ3 rfl
 have B:(aK h1 k).isSome=true:=by
  cases hc:aK h1 k with
  |none=>rw[(hkl.1 k).1 hc]at hg;cases hg
  |some o=>rfl
 have q:∀j,aK (dB h1 k (.lst 0 0 true [])) j=if j=k then some (.lst 0 0 true [])else aK h1 j:=fun j=>by
  rw[eJ];simp[B]
 have p:∀j,aK (dB h1 k (.lst 0 0 true [])) j≠none->aK h j≠none:=fun j g=>by
  rw[q]at g;split at g
  grind
  exact fun hc=>g ((hkl.1 j).2 hc)
 have m:∀{j t v e l},(zxt C k id o) j=some (.atp t v e l)->j≠k/\C j=some (.atp t v e l):=fun{j t v e l} g=>by
  by_cases b:j=k
  grind
  exact⟨b,(c.1 j b).symm.trans g⟩
 refine⟨⟨⟨fun j ob g=>?_,fun j L i v1 r y v2 e2 N a1 a2 a3 a4=>f.hr.inj j L i v1 r y v2 e2 N (p j a1) (p L a2) (m a3).2 (m a4).2,fun i o' d=>?_,fun j i v1 r y a1 a2=>f.hr.wn j i v1 r y (p j a1) (m a2).2,f.hr.wb,fun i o' d=>?_⟩,fun j pl g=>?_,f.wf,f.lim⟩,⟨.refl _ _,fI3 _,fun _ _ _=>rfl,fun i hi G=>?_,Lm hg hkl rfl c,x,fun i hi d=>?_⟩,c⟩;rw[q]at g;split at g;rename_i r;subst r;cases g;exact⟨.nil,A,rfl⟩;rename_i E;obtain⟨o0,q1,O,q2⟩:=hkl.2 j ob g;obtain⟨pl,J,K⟩:=f.hr.ob j o0 q1;exact⟨pl,(c.1 j E).trans J,q2 c rfl K⟩;by_cases hi:i=id;subst hi;simp only[zxt,gF3]at d;cases d;refine⟨M,D,fun j v e' l a b=>?_,F⟩;obtain⟨b1,b2⟩:=m b;exact b1 (f.hr.inj j k i _ _ _ _ _ _ (p j a) (by rw[hg];simp) b2 u);simp only[zxt,fM3 hi]at d;obtain⟨z1,z2,z3,z4⟩:=f.hr.zr i o' d;exact⟨z1,z2,fun j v e' l a b=>z3 j v e' l (p j a) (m b).2,z4⟩;by_cases hi:i=id;subst hi;exact f.hr.wn k i ver e len (by rw[hg];simp) u;simp only[zxt,fM3 hi]at d;exact f.hr.wz i o' d;by_cases b:j=k;subst b;exact f.dom j _ u;exact f.dom j pl ((c.1 j b).symm.trans g);rcases G with⟨j,v1,r,y,J,K⟩|G;exact .inl ⟨j,v1,r,y,p j J,(m K).2⟩;exact .inr G;by_cases w:i=id;subst w;exact .inr (.inl ⟨k,ver,e,len,by rw[hg];simp,u⟩);simp only[zxt,fM3 w]at d;exact .inl d
def mZ1 (A:dR C n h lim s) {e:gL} {t:aA AV} (he:eU C e t) {k:Nat} {m:Bool} {H J:PV} {q yd:AV} {j:aB Nat} {K:gL->bA->aB R} {r:R} (N:fQ e d=some J) (hd:t[d]? =some yd) (P:RV C J yd)
  (hv:Ff H=some (m,k)) (hy:RV C H q) (O:(j=none/\yd=q)\/∃i cs',j=some i/\yd=.agg cs'/\cs'[i]? =some q) (hk:fzK e h d m k j K=some r):
  ∃C' e' h',K e' h'=some r/\dR C' n h' lim s/\eU C' e' t/\Fr C h s C' h' s:=by
 unfold fzK at hk;rw[iC,fC3]at hk;obtain⟨ob,hg,hk⟩:=hk;cases hf:Wr m ob with
 |none=>rw[hf]at hk;cases hk
 |some x=>
 rw[hf]at hk;simp only at hk;obtain⟨e2,hk,D⟩:=kN _ _ _ hk;obtain⟨h2,hk,p⟩:=lL _ _ _ hk;have hk:=eD _ _ _ _ _ hk
 have g:∃C',dR C' n (dB h2 k (.lst 0 0 true [])) lim s/\Fr C h s C' (dB h2 k (.lst 0 0 true [])) s/\lT k C C'/\RV C' x q:=by
  rcases gN1 A hv hg hf hy with⟨id,ver,S,len,o,y,M,E,F⟩|⟨y,F⟩
  obtain⟨c,f,u⟩:=nU2 A hg y M E p;exact⟨_,c,f,u,F _ _ u.2 (by simp[zxt])⟩;obtain⟨c,f⟩:=gM1 (ty2:=0) (e2:=0) (g2:=true) A hg y p rfl;exact⟨C,c,f,lT.self,F C⟩
 obtain⟨C',c,f,u,G⟩:=g
 have l:eU C' e2 t:=fun i w hw=>by
  obtain⟨v,q1,q2⟩:=D i w hw;obtain⟨z,p1,p2⟩:=he i v q1;exact⟨z,p1,q2 u p2⟩
 have Hu:∀{v},RV C' v yd->eU C' ((d,v)::edel e2 [d]) t:=fun{v} hv i w hw=>by
  simp only[fQ]at hw;split at hw
  grind
  obtain⟨z,p1,p2,_⟩:=l.edel [d] i w hw;exact⟨z,p1,p2⟩
 rcases O with⟨rfl,rfl⟩|⟨i,cs',rfl,rfl,hi⟩
 simp only[gE]at hk;exact⟨C',_,_,hk,c,Hu G,f⟩;simp only[kE,fC3]at hk;obtain⟨v2,hv2,hk⟩:=hk;cases v2 with
 |agg cs=>
  obtain⟨q1,q2⟩:=lK _ _ _ _ _ hk;simp only[gE]at q2;obtain⟨z,p1,p2⟩:=l d _ hv2;rw[hd]at p1;cases p1;obtain⟨cs2,B,hl⟩:=nI p2;cases B;refine⟨C',_,_,q2,c,Hu ?_,f⟩;have b:=hl.set G i
  have L:cs'.set i q=cs':=by
   apply jD3;intro a;rw[gE3];split
   grind
   rfl
  rw[L]at b;exact .agg b.1 b.2
 |_=>exact aD hk
end
end Go.P
