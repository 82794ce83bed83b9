import Derived.Test.YtfdbgfhnlgbonaaGreatLaB
/- A text of the proof. -/
set_option linter.all false
namespace Go.P
open Go.Sim (gC CK Ex RV maxRoom)
inductive PV where
 |v (x:Value)
 |is (esz:Nat) (rows:List (List PV))
 |ip (cells:List PV)
 |im (es:List (PV×PV))
 |ref (k o:Nat)
 |own (k:Nat)
 |el (k i o:Nat)
 |map (k:Nat)
 |fn (f:FuncId) (first cap:List PV)
 |agg (cells:List PV)
 |tup (vs:List PV)
 |undef
 |yld (k:Nat)
 |zs (d e:Nat) (rows:List (List PV))
 |zm (es:List (PV×PV))
 deriving Inhabited
inductive TD where
 |nd (ty e:Nat) (kids:List (Nat×TD))
 deriving Inhabited
def Hg:Nat->TD->Bool
 |0,.nd _ _ ks=>ks.isEmpty
 |f+1,.nd _ _ ks=>ks.all fun q=>Hg f q.2
def Kp:Nat->TD->TD->Bool
 |0,_,_=>false
 |n+1,.nd a b ks,.nd c d ls=>Nat.beq a c&&(Nat.beq b d&&(Nat.beq ks.length ls.length&&(ks.zip ls).all fun p=>Nat.beq p.1.1 p.2.1&&Kp n p.1.2 p.2.2))
def TD.ks:TD->aA (Nat×TD)
 |.nd _ _ ks=>ks
inductive PX where
 |t (i:Nat)
 |c (x:PV)
 deriving Inhabited
inductive jO where
 |nil
 |op (d:Nat) (k:gC) (xs:List PX) (kill:List Nat) (dL:jO)
 |sto (k:gC) (xs:List PX) (kill:List Nat) (dL:jO)
 |ifx (d c:Nat) (w:Bool) (body:jO) (x:PX) (kill:List Nat) (dL:jO)
 |ifn (d c:Nat) (w:Bool) (body:jO) (x:PX) (kill:List Nat) (dL:jO)
 |mkfl (d:Nat) (ty:TypeId) (zero:List Value) (xs:List PX) (kill:List Nat) (dL:jO)
 |lax (d:Nat) (es:List (Option Nat)) (dL:jO)
 |own (d:Nat) (ty:TypeId) (e:Nat) (g:Bool) (dL:jO)
 |ownc (d j:Nat) (ty:TypeId) (e:Nat) (g:Bool) (dL:jO)
 |laxc (d j e:Nat) (dL:jO)
 |opn (d:Nat) (m:Option Nat) (x:PX) (kill js:List Nat) (dL:jO)
 |bst (d:Nat) (t:TD) (len:Nat) (zero:List Value) (parts:List Nat) (xs:List PX) (kill:List Nat) (dL:jO)
 |gc (keep:List Nat) (dL:jO)
 |tre (d:Nat) (j:Option Nat) (t:TD) (dL:jO)
 deriving Inhabited
inductive PC where
 |skip
 |reg (ops:jO)
 |regD (dr:Nat) (ops:jO) (before:List Nat)
 |dead (c:Go.Sim.IC)
 |regX (dr:Nat) (ops:jO) (before:List Nat) (ex:List (Nat×Nat×Nat×Nat))
 |seq (a b:PC)
 |cond (c:PX) (a b:PC)
 |condJ (keep:List Nat) (c:PX) (a b:PC)
 |condL (c:PX) (a b:PC)
 |block (id:Nat) (c:PC)
 |loop (keep kx:List Nat) (c:PC)
 |loopU (m:Nat) (keep:List Nat) (c:PC)
 |rangeF (N:Nat) (keep:List Nat) (f:PX) (params:List Nat) (asn body:PC)
 |exit (id:Nat)
 |ret
 deriving Inhabited
abbrev fG:=aA (Nat×PV)
inductive dN where
 |box (cells:List PV)
 |lst (ty:TypeId) (esz:Nat) (g:Bool) (rows:List (List PV))
 |mp (es:List (PV×PV))
 |fl (fs:List PV)
 |lz (ty:TypeId) (esz dp:Nat) (rows:List (List PV))
 |loop (N:Nat) (e:fG) (params:List Nat) (asn body:PC) (busy:Bool) (fin:Option Ex)
 |tr (t:TD) (rows:List (List PV)) (hs:List (Nat×Nat×PV))
abbrev aY:=aA (Nat×dN)
def gT (ty:Nat):Bool:=Nat.ble 4294967296 ty
def Ip (ty:Nat):Nat:=bif gT ty then ty-4294967296 else ty
def dN1:∃f:{R:Type}->Bool->aB R->aB R->aB R,∀{R:Type} b (x y:aB R),f b x y=if b then x else y:=⟨fun b x y=>if b then x else y,fun _ _ _=>rfl⟩
noncomputable def Oh {R:Type} (b:Bool) (x y:aB R):aB R:=Classical.choose dN1 b x y
def rI {R:Type} (b:Bool) (x y:aB R):Oh b x y=if b then x else y:=dI3 dN1 b x y
def Oj:∃f:{A R:Type}->aB A->(A->aB R)->aB R,∀{A R:Type} (x:aB A) (k:A->aB R),f x k=x.bind k:=⟨fun x k=>x.bind k,fun _ _=>rfl⟩
noncomputable def cF {A R:Type} (x:aB A) (k:A->aB R):aB R:=Classical.choose Oj x k
def cD {A R:Type} (x:aB A) (k:A->aB R):cF x k=x.bind k:=dI3 Oj x k
noncomputable section
variable {R:Type}
def Sq (x:Value) (K:Value->aB R):aB R:=
 match x with
 |.int k n=>K (.int k n)
 |.bool b=>K (.bool b)
 |.string s=>K (.string s)
 |x=>K x
def fPV (x:PV) (K:PV->aB R):aB R:=
 match x with
 |.v x=>Sq x fun x=>K (.v x)
 |.is e rows=>K (.is e rows)
 |.ip cs=>K (.ip cs)
 |.im es=>K (.im es)
 |.ref k o=>K (.ref k o)
 |.own k=>K (.own k)
 |.el k i o=>K (.el k i o)
 |.map k=>K (.map k)
 |.fn f a b=>K (.fn f a b)
 |.agg cs=>K (.agg cs)
 |.tup cs=>K (.tup cs)
 |.undef=>K .undef
 |.yld k=>K (.yld k)
 |.zs d e rows=>K (.zs d e rows)
 |.zm es=>K (.zm es)
def xF:aA PV->(aA PV->aB R)->aB R
 |[],K=>K []
 |x::xs,K=>fPV x fun x=>xF xs fun xs=>K (x::xs)
def fV (x:PV) (K:PV->aB R):aB R:=
 match x with
 |.v x=>Sq x fun x=>K (.v x)
 |.agg cs=>xF cs fun cs=>K (.agg cs)
 |.tup cs=>fT cs fun cs=>K (.tup cs)
 |.ip cs=>xF cs fun cs=>K (.ip cs)
 |.is e rows=>K (.is e rows)
 |.im es=>K (.im es)
 |.ref k o=>K (.ref k o)
 |.own k=>K (.own k)
 |.el k i o=>K (.el k i o)
 |.map k=>K (.map k)
 |.fn f a b=>xF a fun a=>xF b fun b=>K (.fn f a b)
 |.undef=>K .undef
 |.yld k=>K (.yld k)
 |.zs d e rows=>K (.zs d e rows)
 |.zm es=>K (.zm es)
 where
 fT:aA PV->(aA PV->aB R)->aB R
 |[],K=>K []
 |x::xs,K=>(match x with
   |.agg cs=>xF cs fun cs=>fT xs fun xs=>K (.agg cs::xs)
   |x=>fPV x fun x=>fT xs fun xs=>K (x::xs))
def uW:fG->Nat->(PV->aB R)->aB R
 |[],_,_=>none
 |(j,v)::r,i,K=>bif Nat.beq j i then K v else uW r i K
def wL:Nat->aA Nat->Bool
 |_,[]=>false
 |i,j::js=>bif Nat.beq i j then true else wL i js
def kC:fG->aA Nat->(fG->aB R)->aB R
 |[],_,K=>K []
 |(j,v)::r,is,K=>bif wL j is then kC r is K else kC r is fun r=>K ((j,v)::r)
def rJ (e:fG):aA PX->(aA PV->aB R)->aB R
 |[],K=>K []
 |.t i::xs,K=>uW e i fun v=>rJ e xs fun vs=>K (v::vs)
 |.c x::xs,K=>rJ e xs fun vs=>K (x::vs)
def tD:Nat->aA PV->(aA PV->aB R)->aB R
 |0,_,K=>K []
 |_+1,[],_=>none
 |n+1,a::as,K=>tD n as fun l=>K (a::l)
def jT:Nat->aA PV->(aA PV->aB R)->aB R
 |0,l,K=>K l
 |_+1,[],_=>none
 |n+1,_::as,K=>jT n as K
def vW:aA PV->Nat->aA PV->(aA PV->aB R)->aB R
 |l,0,[],K=>K l
 |[],_,_,_=>none
 |_::as,0,c::cs,K=>vW as 0 cs fun l=>K (c::l)
 |a::as,n+1,cs,K=>vW as n cs fun l=>K (a::l)
def hK:aY->Nat->(dN->aB R)->aB R
 |[],_,_=>none
 |(j,v)::r,i,K=>bif Nat.beq j i then K v else hK r i K
def hZ:aY->Nat->dN->(aY->aB R)->aB R
 |[],_,_,_=>none
 |(j,v)::r,i,o,K=>bif Nat.beq j i then K ((j,o)::r)else hZ r i o fun r=>K ((j,v)::r)
def mK (x:PV) (K:aA PV->aB R):aB R:=
 match x with
 |.agg cs=>K cs
 |.tup _=>none
 |.undef=>none
 |x=>K [x]
def kEq (a b:IntKind):Bool:=
 match a,b with
 |.i8,.i8|.i16,.i16|.i32,.i32|.i64,.i64|.u8,.u8|.u16,.u16|.u32,.u32|.u64,.u64=>true
 |_,_=>false
def vT1 (op:BinOp) (x y:PV) (K:PV->aB R):aB R:=
 match x,y with
 |.v x,.v y=>
  match x,y with
  |.int k a,.int k' b=>
   match op with
   |.shl=>cF (if b<0 then none else some (k.wrap (a*2^min b.toNat k.bits))) fun r=>K (.v (.int k r))
   |.shr=>cF (if b<0 then none else some (a.fdiv (2^min b.toNat k.bits))) fun r=>K (.v (.int k r))
   |_=>bif kEq k k' then match op with
    |.add=>K (.v (.int k (k.wrap (a+b))))
    |.sub=>K (.v (.int k (k.wrap (a-b))))
    |.mul=>K (.v (.int k (k.wrap (a*b))))
    |.quo=>cF (if b=0 then none else some (k.wrap (a.tdiv b))) fun r=>K (.v (.int k r))
    |.rem=>cF (if b=0 then none else some (a.tmod b)) fun r=>K (.v (.int k r))
    |.and=>K (.v (.int k (k.wrap (BitVec.ofInt k.bits a&&&BitVec.ofInt k.bits b).toNat)))
    |.or=>K (.v (.int k (k.wrap (BitVec.ofInt k.bits a|||BitVec.ofInt k.bits b).toNat)))
    |.xor=>K (.v (.int k (k.wrap (BitVec.ofInt k.bits a^^^BitVec.ofInt k.bits b).toNat)))
    |.andNot=>K (.v (.int k (k.wrap (BitVec.ofInt k.bits a&&& ~~~ BitVec.ofInt k.bits b).toNat)))
    |.eql=>K (.v (.bool (a==b)))
    |.neq=>K (.v (.bool (a !=b)))
    |.lss=>K (.v (.bool (decide (a<b))))
    |.leq=>K (.v (.bool (decide (a<=b))))
    |.gtr=>K (.v (.bool (decide (a>b))))
    |.geq=>K (.v (.bool (decide (a>=b))))
    |_=>none
   else none
  |.string a,.string b=>
   match op with
   |.add=>cF (if a.size+b.size<=2^62 then some (a++b)else none) fun r=>K (.v (.string r))
   |.eql=>K (.v (.bool (a.toList==b.toList)))
   |.neq=>K (.v (.bool !(a.toList==b.toList)))
   |.lss=>K (.v (.bool (Op.bytesLess a.toList b.toList)))
   |.leq=>K (.v (.bool (Op.bytesLess a.toList b.toList||a.toList==b.toList)))
   |.gtr=>K (.v (.bool !(Op.bytesLess a.toList b.toList||a.toList==b.toList)))
   |.geq=>K (.v (.bool !(Op.bytesLess a.toList b.toList)))
   |_=>none
  |_,_=>none
 |_,_=>none
def lM1:aA CK->aA PV->aA PV->(Bool->aB R)->aB R
 |[],[],[],K=>K true
 |k::ks,a::as,b::bs,K=>lM1 ks as bs fun r=>match k,a,b with
  |.i,.v (.int j x),.v (.int j' y)=>bif kEq j j' then K ((x==y)&&r)else none
  |.b,.v (.bool x),.v (.bool y)=>K ((x==y)&&r)
  |.s,.v (.string x),.v (.string y)=>K ((x==y)&&r)
  |_,_,_=>none
 |_,_,_,_=>none
def vX (rows:aA (aA PV)) (i:Int):aB (aA PV):=if 0<=i then rows[i.toNat]? else none
def sD (n:Nat) (i:Int):aB Nat:=if 0<=i/\i<n then some i.toNat else none
def qF (rows:aA (aA PV)) (l h:Int):aB (aA (aA PV)):=
 if 0<=l/\l<=h/\h<=rows.length then some ((rows.drop l.toNat).take (h.toNat-l.toNat))else none
def tE (s:ByteArray) (i:Int):aB Int:=if 0<=i then(s.data.toList[i.toNat]?).map fun b=>(b.toNat:Int)else none
def oP (rows:aA (aA PV)) (i o:Nat) (cs:aA PV):aB (aA (aA PV)):=
 match rows[i]? with
 |some row=>if o+cs.length<=row.length then some (rows.set i (Sim.setL row o cs))else none
 |none=>none
def kT (rows:aA (aA PV)) (i o:Nat):aB PV:=(rows[i]?).bind fun row=>row[o]?
def lT (rows:aA (aA PV)) (i o n:Nat):aB (aA PV):=(rows[i]?).bind fun row=>if o+n<=row.length then some ((row.drop o).take n)else none
def xG (cs:aA PV) (i:Int) (len esz:Nat):aB PV:=if 0<=i/\i<len then cs[i.toNat*esz]? else none
def tF (cs:aA PV) (i:Int) (len esz:Nat):aB (aA PV):=if 0<=i/\i<len/\(i.toNat+1)*esz<=cs.length then some ((cs.drop (i.toNat*esz)).take esz)else none
def byteRows (s:ByteArray):aA (aA PV):=s.data.toList.map fun b=>[.v (.int .u8 b.toNat)]
def appRows (g:Bool) (rows new:aA (aA PV)):aB (aA (aA PV)):=
 if rows.length+new.length<=maxRoom/\(g=true->new.length<=1)then some (rows++new)else none
def uD (rows:aA (aA PV)) (h:Int):aB (aA (aA PV)):=if 0<=h/\h<=rows.length then some (rows.take h.toNat)else none
def tG (l c:Int) (zero:aA PV):aB (aA (aA PV)):=if 0<=l/\l<=c/\c<=maxRoom then some (List.replicate l.toNat zero)else none
def xH:CK->PV->PV->aB Bool
 |.i,.v (.int k a),.v (.int k' b)=>if k=k' then some (a==b)else none
 |.b,.v (.bool a),.v (.bool b)=>some (a==b)
 |.s,.v (.string a),.v (.string b)=>some (a==b)
 |_,_,_=>none
def oQ:aA CK->aA PV->aA PV->aB Bool
 |[],[],[]=>some true
 |k::ks,a::as,b::bs=>match xH k a b with
  |some true=>oQ ks as bs
  |some false=>some false
  |none=>none
 |_,_,_=>none
def zI (agg:Bool) (ks:aA CK) (a b:PV):aB Bool:=
 if agg then match a,b with
  |.agg as,.agg bs=>if as.length=ks.length/\bs.length=ks.length then oQ ks as bs else none
  |_,_=>none
 else oQ ks [a] [b]
def xI (agg:Bool) (ks:aA CK) (k:PV):aA (PV×PV)->Nat->aB (aB (Nat×PV))
 |[],_=>some none
 |(k',x)::r,i=>match zI agg ks k k' with
  |some true=>some (some (i,x))
  |some false=>xI agg ks k r (i+1)
  |none=>none
def zJ (agg:Bool) (ks:aA CK):PV->Bool
 |.agg as=>agg&&as.length==ks.length
 |.v _=> !agg
 |_=>false
def vY (agg:Bool) (ks:aA CK) (zero k:PV) (es:aA (PV×PV)):aB PV:=
 if zJ agg ks k then(xI agg ks k es 0).map fun r=>match r with|some (_,x)=>x|none=>zero else none
def xJ (agg:Bool) (ks:aA CK) (zero k:PV) (es:aA (PV×PV)):aB (PV×Bool):=
 if zJ agg ks k then(xI agg ks k es 0).map fun r=>match r with|some (_,x)=>(x,true)|none=>(zero,false)else none
def En (agg:Bool) (ks:aA CK) (k x:PV) (es:aA (PV×PV)):aB (aA (PV×PV)):=
 if zJ agg ks k then(xI agg ks k es 0).map fun r=>match r with|some (i,_)=>es.set i (k,x)|none=>es++[(k,x)]else none
def dY:Nat->PV->Bool
 |0,_=>false
 |d+1,x=>match x with
  |.v _|.is _ _|.ip _|.im _=>true
  |.fn _ a b=>a.all (dY d)&&b.all (dY d)
  |.agg cs=>cs.all (dY d)
  |.tup cs=>cs.all (dY d)
  |_=>false
def gZ:PV->Bool
 |.v _|.is _ _|.ip _=>true
 |_=>false
def Sr:PV->Bool
 |.agg cs=>cs.all gZ
 |x=>gZ x
def zK:Nat->PV->Bool
 |0,_=>false
 |d+1,x=>match x with
  |.v _=>true
  |.agg cs=>cs.all (zK d)
  |.tup cs=>cs.all (zK d)
  |_=>false
def uY (f:PV->(PV->aB R)->aB R):aA PV->(aA PV->aB R)->aB R
 |[],K=>K []
 |x::xs,K=>f x fun x=>uY f xs fun xs=>K (x::xs)
def Kq (h:aY):Nat->PV->(PV->aB R)->aB R
 |0,_,_=>none
 |d+1,x,K=>match x with
  |.own k=>hK h k fun ob=>match ob with
   |.lst _ e _ rows=>K (.is e rows)
   |.lz _ e dp rows=>bif Nat.ble dp 4 then K (.is e rows)else none
   |.tr t rows hs=>match hs with
    |[]=>match t with|.nd ty e ks=>bif Hg 4 (.nd ty e ks)then K (.is e rows)else none
    |_=>none
   |_=>none
  |.zs dp e rows=>bif Nat.ble dp 5 then K (.is e rows)else none
  |.map k=>hK h k fun ob=>match ob with
   |.mp es=>K (.im es)
   |_=>none
  |.ref k o=>hK h k fun ob=>match ob with
   |.box cs=>jT o cs fun cs=>uY (Kq h d) cs fun cs=>K (.ip cs)
   |_=>none
  |.fn f a b=>uY (Kq h d) a fun a=>uY (Kq h d) b fun b=>K (.fn f a b)
  |.agg cs=>uY (Kq h d) cs fun cs=>K (.agg cs)
  |.v x=>K (.v x)
  |.is e rows=>K (.is e rows)
  |.ip cs=>K (.ip cs)
  |.im es=>K (.im es)
  |_=>none
def fH (k:Nat):Nat->PV->(PV->aB R)->aB R
 |0,_,K=>K .undef
 |d+1,x,K=>match x with
  |.own j=>bif Nat.beq j k then K .undef else K (.own j)
  |.el j i o=>bif Nat.beq j k then K .undef else K (.el j i o)
  |.ref j o=>bif Nat.beq j k then K .undef else K (.ref j o)
  |.map j=>bif Nat.beq j k then K .undef else K (.map j)
  |.yld j=>bif Nat.beq j k then K .undef else K (.yld j)
  |.fn f a b=>kills d a fun a=>kills d b fun b=>K (.fn f a b)
  |.agg cs=>kills d cs fun cs=>K (.agg cs)
  |.tup cs=>kills d cs fun cs=>K (.tup cs)
  |x=>K x
 where
 kills (d:Nat):aA PV->(aA PV->aB R)->aB R
 |[],K=>K []
 |x::xs,K=>fH k d x fun x=>kills d xs fun xs=>K (x::xs)
def oR (k:Nat):fG->(fG->aB R)->aB R
 |[],K=>K []
 |(j,v)::r,K=>fH k 3 v fun v=>oR k r fun r=>K ((j,v)::r)
def Eo (k:Nat):aA (Nat×Nat×PV)->(aA (Nat×Nat×PV)->aB R)->aB R
 |[],K=>K []
 |(j,i,x)::r,K=>fH k 3 x fun x=>Eo k r fun r=>K ((j,i,x)::r)
def kX (k:Nat):aY->(aY->aB R)->aB R
 |[],K=>K []
 |(j,o)::r,K=>match o with
  |.box cs=>fH.kills k 2 cs fun cs=>kX k r fun r=>K ((j,.box cs)::r)
  |.lst ty e g rows=>kX k r fun r=>K ((j,.lst ty e g rows)::r)
  |.mp es=>kX k r fun r=>K ((j,.mp es)::r)
  |.lz ty e dp rows=>kX k r fun r=>K ((j,.lz ty e dp rows)::r)
  |.fl fs=>fH.kills k 2 fs fun fs=>kX k r fun r=>K ((j,.fl fs)::r)
  |.loop N e ps a b busy fin=>oR k e fun e=>kX k r fun r=>K ((j,.loop N e ps a b busy fin)::r)
  |.tr t rows hs=>Eo k hs fun hs=>kX k r fun r=>K ((j,.tr t rows hs)::r)
def dO1 (h:aY) (e:Nat) (x:PV) (K:aA (aA PV)->aB R):aB R:=
 match x with
 |.is e' rows=>bif Nat.beq e' e then K rows else none
 |.own k=>hK h k fun ob=>match ob with
  |.lst _ e' _ rows=>bif Nat.beq e' e then K rows else none
  |_=>none
 |.v (.slice none 0 0)=>K []
 |_=>none
def Bw (lo hi:Bool) (len:Nat) (a:aA PV) (K:Int->Int->aB R):aB R:=
 match lo,hi,a with
 |false,false,[]=>K 0 len
 |true,false,[.v (.int _ l)]=>K l len
 |false,true,[.v (.int _ h)]=>K 0 h
 |true,true,[.v (.int _ l),.v (.int _ h)]=>K l h
 |_,_,_=>none
def Ol:aA PV->aA (Nat×Nat)->aA PV->(aA PV->aB R)->aB R
 |cells,[],[],K=>K cells
 |cells,(off,n)::ps,x::xs,K=>mK x fun cs=>bif Nat.beq cs.length n then vW cells off cs fun cells=>Ol cells ps xs K else none
 |_,_,_,_=>none
def xK (e:Nat):aA PV->(aA (aA PV)->aB R)->aB R
 |[],K=>K []
 |x::xs,K=>mK x fun cs=>bif Nat.beq cs.length e&&cs.all gZ then xK e xs fun r=>K (cs::r)else none
def dP1:PV->aB (Nat×PV)
 |.zs d e rows=>some (d,.is e rows)
 |x=>bif gZ x then some (0,x)else none
def Ep:aA PV->aB (Nat×aA PV)
 |[]=>some (0,[])
 |x::xs=>match dP1 x,Ep xs with
  |some (d,y),some (d',ys)=>some (bif Nat.blt d d' then d' else d,y::ys)
  |_,_=>none
def fD (d:Nat) (K:Nat->aB R):aB R:=match d with
 |0=>K 0
 |1=>K 1
 |2=>K 2
 |3=>K 3
 |4=>K 4
 |d=>K d
def Er (e:Nat):aA PV->(Nat->aA (aA PV)->aB R)->aB R
 |[],K=>K 0 []
 |x::xs,K=>mK x fun cs=>match Ep cs with
  |some (d,ys)=>bif Nat.beq ys.length e then Er e xs fun a r=>fD (bif Nat.blt d a then a else d) fun m=>K m (ys::r)else none
  |none=>none
def dQ1:PV->Bool
 |.agg cs=>cs.all gZ
 |x=>gZ x
def Kr:Nat->aA Nat->Bool
 |_,[]=>true
 |i,j::js=>bif Nat.beq i j then Kr (i+1) js else false
def mnK (mx:Bool) (k:IntKind):Int->aA PV->(Int->aB R)->aB R
 |a,[],K=>K a
 |a,.v (.int k' b)::r,K=>bif kEq k k' then mnK mx k (bif mx then(if b>a then b else a)else(if b<a then b else a)) r K else none
 |_,_,_=>none
def lN1 (i:Int) (K:Nat->aB R):aB R:=
 match i with
 |.ofNat i=>K i
 |_=>none
def Om (i:Int):Nat->(Nat->aB R)->aB R
 |0,_=>none
 |m+1,K=>Oh (i==(m:Int)) (K m) (Om i m K)
def gK:aA (Nat×TD)->Nat->aB TD
 |[],_=>none
 |(j,t)::r,o=>bif Nat.beq j o then some t else gK r o
def xL (ks:aA (Nat×TD)):Nat->aA PV->(aA PV->aB R)->aB R
 |_,[],K=>K []
 |o,x::xs,K=>match gK ks o with
  |some _=>xL ks (o+1) xs fun xs=>K (.undef::xs)
  |none=>xL ks (o+1) xs fun xs=>K (x::xs)
def Es:aA (Nat×Nat×PV)->Nat->aB (Nat×PV)
 |[],_=>none
 |(j,i,x)::r,o=>bif Nat.beq j o then some (i,x)else Es r o
def Yy:aA (Nat×Nat×PV)->Nat->aA (Nat×Nat×PV)
 |[],_=>[]
 |(j,i,x)::r,o=>bif Nat.beq j o then r else(j,i,x)::Yy r o
def On (i j:Nat):aB Unit:=if i=j then some ()else none
def Vn (hs:aA (Nat×Nat×PV)) (o i:Nat) (K:aA (Nat×Nat×PV)->aB R):aB R:=
 match Es hs o with
 |none=>K hs
 |some (i',_)=>cF (On i i') fun _=>K (Yy hs o)
def xM (ks:aA (Nat×TD)) (i:Nat):Nat->aA PV->aA (Nat×Nat×PV)->(aA PV->aA (Nat×Nat×PV)->aB R)->aB R
 |_,[],hs,K=>K [] hs
 |o,y::ys,hs,K=>match gK ks o with
  |none=>bif gZ y then xM ks i (o+1) ys hs fun l hs=>K (y::l) hs else none
  |some (.nd _ e _)=>match y with
   |.own kc=>Vn hs o i fun hs=>match Es hs o with
    |none=>xM ks i (o+1) ys ((o,i,.own kc)::hs) fun l hs=>K (.is e []::l) hs
    |some _=>none
   |.v (.slice none 0 0)=>Vn hs o i fun hs=>match Es hs o with
    |none=>xM ks i (o+1) ys hs fun l hs=>K (.is e []::l) hs
    |some _=>none
   |_=>none
def Bj:TD->aA (aA PV)->dN
 |.nd ty e [],rows=>.lst ty e true rows
 |t,rows=>.tr t rows []
def Oo (ks:aA (Nat×TD)) (i o:Nat) (cs0:aA PV):aA Nat->aA PV->aA (Nat×Nat×PV)->aY->Nat->(aA PV->aA (Nat×Nat×PV)->aY->Nat->aB R)->aB R
 |[],cs,hs,h,n,K=>K cs hs h n
 |j::js,cs,hs,h,n,K=>match gK ks j with
  |some t=>bif Nat.ble o j then match Es hs j with
   |some (i',x)=>cF (On i i') fun _=>vW cs (j-o) [x] fun cs=>Oo ks i o cs0 js cs hs h n K
   |none=>jT (j-o) cs0 fun l=>match l with
    |.is _ rows::_=>vW cs (j-o) [.own n] fun cs=>Oo ks i o cs0 js cs ((j,i,.own n)::hs) ((n,Bj t rows)::h) (n+1) K
    |_=>none
   else none
  |none=>none
def vU1 (t:TD) (ob:dN) (K:Nat->aA (aA PV)->aB R):aB R:=
 match ob with
 |.lst ty e _ rows=>bif gT ty then none else bif Kp 2 (.nd ty e []) t then K e rows else none
 |.tr t' rows []=>bif Kp 8 t' t then(match t with|.nd _ e _=>K e rows)else none
 |_=>none
def vZ:aA (Nat×Nat×PV)->Nat->aB (Nat×Nat)
 |[],_=>none
 |(j,i,.own k)::r,kc=>bif Nat.beq k kc then some (j,i)else vZ r kc
 |_::r,kc=>vZ r kc
def vJ:aA (Nat×Nat×PV)->Nat->aA (Nat×Nat×PV)
 |[],_=>[]
 |(j,i,.own k)::r,kc=>bif Nat.beq k kc then r else(j,i,.own k)::vJ r kc
 |x::r,kc=>x::vJ r kc
def lO1 (a:Nat):aY->aB Nat
 |[]=>none
 |(kp,o)::r=>match o with
  |.tr _ _ hs=>match vZ hs a with
   |some _=>some kp
   |none=>lO1 a r
  |_=>lO1 a r
def Oq (k:Nat):Nat->PV->Bool
 |0,_=>true
 |d+1,x=>match x with
  |.ref j _|.own j|.el j _ _|.map j|.yld j=>Nat.beq j k
  |.fn _ a b=>a.any (Oq k d)||b.any (Oq k d)
  |.agg cs=>cs.any (Oq k d)
  |.tup cs=>cs.any (Oq k d)
  |_=>false
def vV1 (k:Nat):dN->Bool
 |.box cs=>cs.any (Oq k 5)
 |.fl cs=>cs.any (Oq k 5)
 |.loop _ e _ _ _ _ _=>e.any fun q=>Oq k 5 q.2
 |_=>false
def tE1 (k:Nat) (e:fG) (h:aY):Bool:=(e.any fun q=>Oq k 5 q.2)||h.any fun q=>vV1 k q.2
def fB (k:gC) (xs:aA PV) (h:aY) (n:Nat) (K:PV->aY->Nat->aB R):aB R:=
 match k,xs with
 |.mov,[x]=>K x h n
 |.nilc,[x]=>match x with
  |.ref .. |.ip .. |.el .. |.fn .. |.yld .. =>K x h n
  |_=>none
 |.box _ size,[x]=>mK x fun cs=>bif Nat.beq cs.length size then(bif Nat.beq size 0 then none else K (.ref n 0) ((n,.box cs)::h) (n+1))else none
 |.alloc _ zero,[]=>xF (zero.map .v) fun cs=>K (.ref n 0) ((n,.box cs)::h) (n+1)
 |.build zero parts,xs=>xF (zero.map .v) fun cs=>Ol cs parts xs fun cs=>K (.agg cs) h n
 |.buildSl ty e len zero parts,xs=>bif Kr 0 parts&&(Nat.beq zero.length e&& !(gT ty))then(bif Nat.beq parts.length len then bif xs.all dQ1 then xK e xs fun rows=>bif Nat.beq rows.length len then K (.own n) ((n,.lst ty e false rows)::h) (n+1)else none else Er e xs fun dp rows=>bif Nat.beq rows.length len then K (.own n) ((n,.lz ty e dp rows)::h) (n+1)else none else none)else none
 |.loadS,[p]=>match p with
  |.ref k o=>hK h k fun ob=>match ob with
   |.box cs=>jT o cs fun cs=>match cs with
    |c::_=>K c h n
    |[]=>none
   |_=>none
  |.ip cs=>match cs with
   |c::_=>K c h n
   |[]=>none
  |.el k i o=>hK h k fun ob=>match ob with
   |.lst _ _ _ rows=>cF (kT rows i o) fun c=>K c h n
   |.fl fs=>bif Nat.beq o 0 then(jT i fs fun fs=>match fs with
    |f::_=>K f h n
    |[]=>none)else none
   |.tr t rows _=>match gK t.ks o with
    |some _=>cF (kT rows i o) fun _=>K .undef h n
    |none=>cF (kT rows i o) fun c=>K c h n
   |_=>none
  |_=>none
 |.loadA m,[p]=>match p with
  |.ref k o=>hK h k fun ob=>match ob with
   |.box cs=>jT o cs fun cs=>tD m cs fun cs=>K (.agg cs) h n
   |_=>none
  |.ip cs=>tD m cs fun cs=>K (.agg cs) h n
  |.el k i o=>hK h k fun ob=>match ob with
   |.lst _ _ _ rows=>cF (lT rows i o m) fun cs=>K (.agg cs) h n
   |.tr t rows _=>cF (lT rows i o m) fun cs=>xL t.ks o cs fun cs=>K (.agg cs) h n
   |_=>none
  |_=>none
 |.store m,[p,x]=>match p with
  |.ref k o=>hK h k fun ob=>match ob with
   |.box cs=>mK x fun ys=>bif Nat.beq ys.length m then vW cs o ys fun cs=>hZ h k (.box cs) fun h=>K .undef h n else none
   |_=>none
  |.el k i o=>hK h k fun ob=>match ob with
   |.lst ty e g rows=>mK x fun ys=>bif Nat.beq ys.length m&&ys.all gZ then cF (oP rows i o ys) fun rows=>hZ h k (.lst ty e g rows) fun h=>K .undef h n else none
   |.tr t rows hs=>mK x fun ys=>bif Nat.beq ys.length m then xM t.ks i o ys hs fun ys hs=>cF (oP rows i o ys) fun rows=>hZ h k (.tr t rows hs) fun h=>K .undef h n else none
   |_=>none
  |_=>none
 |.fad off,[p]=>match p with
  |.ref k o=>K (.ref k (o+off)) h n
  |.ip cs=>jT off cs fun cs=>K (.ip cs) h n
  |.el k i o=>K (.el k i (o+off)) h n
  |_=>none
 |.iad e,[x,i]=>match i with
  |.v (.int _ i)=>match x with
   |.is e' rows=>bif Nat.beq e' e then cF (vX rows i) fun row=>K (.ip row) h n else none
   |.own k=>hK h k fun ob=>match ob with
    |.lst _ e' _ rows=>bif Nat.beq e' e then cF (sD rows.length i) fun i=>K (.el k i 0) h n else none
    |.fl fs=>bif Nat.beq e 1 then lN1 i (fun i=>bif Nat.blt i fs.length then K (.el k i 0) h n else none)else none
    |.tr t rows _=>match t with|.nd _ e' _=>bif Nat.beq e' e then cF (sD rows.length i) fun i=>K (.el k i 0) h n else none
    |_=>none
   |_=>none
  |_=>none
 |.iadA len esz,[p,i]=>match i with
  |.v (.int _ i)=>match p with
   |.ref k o=>Om i len fun j=>K (.ref k (o+j*esz)) h n
   |_=>none
  |_=>none
 |.idxStr,[x,i]=>match x,i with
  |.v (.string s),.v (.int _ i)=>cF (tE s i) fun b=>K (.v (.int .u8 b)) h n
  |_,_=>none
 |.idxA len e agg,[x,i]=>match x,i with
  |.agg cs,.v (.int _ i)=>bif agg then cF (tF cs i len e) fun cs=>K (.agg cs) h n else cF (xG cs i len e) fun c=>K c h n
  |_,_=>none
 |.bin op,[x,y]=>vT1 op x y fun v=>K v h n
 |.eqB neg,[x,y]=>match x,y with
  |.v (.bool a),.v (.bool b)=>K (.v (.bool ((a==b)!=neg))) h n
  |_,_=>none
 |.eqA neg ks,[x,y]=>match x,y with
  |.agg as,.agg bs=>lM1 ks as bs fun r=>K (.v (.bool (r !=neg))) h n
  |_,_=>none
 |.un op,[x]=>match op,x with
  |.not,.v (.bool b)=>K (.v (.bool !b)) h n
  |.neg,.v (.int k m)=>K (.v (.int k (k.wrap (0-m)))) h n
  |.xor,.v (.int k m)=>K (.v (.int k (k.wrap (BitVec.ofInt k.bits (if k.signed then -1 else k.max)^^^BitVec.ofInt k.bits m).toNat))) h n
  |_,_=>none
 |.convI k,[x]=>match x with
  |.v (.int _ m)=>K (.v (.int k (k.wrap m))) h n
  |_=>none
 |.s2b _,[x]=>match x with
  |.v (.string s)=>K (.is 1 (byteRows s)) h n
  |_=>none
 |.mkfn f m,xs=>match f with
  |.func f=>tD m xs fun a=>jT m xs fun b=>K (.fn f a b) h n
  |_=>none
 |.mkmap,[]=>K (.map n) ((n,.mp [])::h) (n+1)
 |.mksl ty e _ zero,[l,c]=>match l,c with
  |.v (.int _ l),.v (.int _ c)=>bif gT ty then none else xF (zero.map .v) fun z=>cF (tG l c z) fun rows=>K (.own n) ((n,.lst ty e true rows)::h) (n+1)
  |_,_=>none
 |.slc e lo hi mx,x::bs=>bif mx then none else match x with
  |.is e' rows=>bif Nat.beq e' e then Bw lo hi rows.length bs fun l r=>cF (qF rows l r) fun rows=>K (.is e rows) h n else none
  |_=>none
 |.lookup agg ks zero ok,[m,k]=>
  match zero with
  |.v z=>match m with
   |.im es=>bif dY 2 k then(bif ok then cF (xJ agg ks (.v z) k es) fun r=>K (.tup [r.1,.v (.bool r.2)]) h n else cF (vY agg ks (.v z) k es) fun r=>K r h n)else none
   |.zm es=>bif dY 2 k then(bif ok then cF (xJ agg ks (.v z) k es) fun r=>K (.tup [r.1,.v (.bool r.2)]) h n else cF (vY agg ks (.v z) k es) fun r=>K r h n)else none
   |.map j=>hK h j fun ob=>match ob with
    |.mp es=>bif dY 2 k then(bif ok then cF (xJ agg ks (.v z) k es) fun r=>K (.tup [r.1,.v (.bool r.2)]) h n else cF (vY agg ks (.v z) k es) fun r=>K r h n)else none
    |_=>none
   |_=>none
  |_=>none
 |.mapup agg ks,[m,k,x]=>match m with
  |.map j=>hK h j fun ob=>match ob with
   |.mp es=>bif Sr k&&Sr x then cF (En agg ks k x es) fun es=>hZ h j (.mp es) fun h=>K .undef h n else none
   |_=>none
  |_=>none
 |.len kd,[x]=>match x with
  |.is _ rows=>bif Nat.beq kd 0 then cF (some rows.length) fun m=>K (.v (.int .i64 m)) h n else none
  |.own k=>bif Nat.beq kd 0 then hK h k fun ob=>match ob with
   |.lst _ _ _ rows=>cF (some rows.length) fun m=>K (.v (.int .i64 m)) h n
   |.lz _ _ _ rows=>cF (some rows.length) fun m=>K (.v (.int .i64 m)) h n
   |.fl fs=>K (.v (.int .i64 fs.length)) h n
   |.tr _ rows _=>cF (some rows.length) fun m=>K (.v (.int .i64 m)) h n
   |_=>none else none
  |.zs _ _ rows=>bif Nat.beq kd 0 then cF (some rows.length) fun m=>K (.v (.int .i64 m)) h n else none
  |.v (.slice none 0 0)=>bif Nat.beq kd 0 then K (.v (.int .i64 0)) h n else none
  |.v (.string s)=>bif Nat.beq kd 1 then K (.v (.int .i64 s.size)) h n else none
  |_=>none
 |.mx,x::xs=>match x with
  |.v (.int k a)=>mnK true k a xs fun r=>K (.v (.int k r)) h n
  |_=>none
 |.ext i,[x]=>match x with
  |.tup vs=>jT i vs fun vs=>match vs with
   |v::_=>K v h n
   |[]=>none
  |_=>none
 |_,_=>none
structure NX where
 is:FuncId->Bool
 nw:FuncId->Bool
 xw:FuncId->Bool
 run:{R:Type}->FuncId->List PV->aY->Nat->(PV->aY->Nat->Option R)->Option R
 yld:{R:Type}->Nat->List PV->aY->Nat->(PV->aY->Nat->Option R)->Option R
abbrev yT:=FuncId->aA PV->aB PV
def Bx (h:aY):aA PV->(aA PV->aB R)->aB R
 |[],K=>K []
 |x::xs,K=>Kq h 5 x fun x=>Bx h xs fun xs=>K (x::xs)
def Av (C:yT) (f:FuncId) (xs:aA PV) (h:aY) (K:PV->aB R):aB R:=
 bif xs.all (dY 4)then cF (C f xs) fun v=>fV v K
 else Bx h xs fun xs=>cF (C f xs) fun v=>fV v fun v=>bif zK 4 v then K v else none
def Vo (h:aY) (es dp:Nat) (x:PV) (K:aA (aA PV)->aB R):aB R:=
 match x with
 |.is e' rows=>bif Nat.beq e' es then K rows else none
 |.own k=>hK h k fun ob=>match ob with
  |.lst _ e' _ rows=>bif Nat.beq e' es then K rows else none
  |.lz _ e' dp' rows=>bif Nat.beq e' es&&Nat.ble dp' dp then K rows else none
  |_=>none
 |.zs d e' rows=>bif Nat.beq e' es&&Nat.ble d (dp+1)then K rows else none
 |.v (.slice none 0 0)=>K []
 |_=>none
def dR1 (e:fG) (h:aY) (d ty es:Nat) (kill:aA Nat) (k:Nat) (t:TD) (rows:aA (aA PV)) (hs:aA (Nat×Nat×PV)) (a:Nat) (b:dN) (K:fG->aY->aB R):aB R:=
 match t,hs,b with
 |.nd ty' es' ks,[],.tr t2 rows2 []=>bif (Nat.beq es' es&&Nat.beq ty' ty)&&(Kp 8 t2 (.nd ty' es' ks)&& !(Nat.beq k a))then cF (appRows true rows rows2) fun rows=>
   kC e (d::kill) fun e=>oR k e fun e=>oR a e fun e=>kX k h fun h=>kX a h fun h=>hZ h a (.lst 0 0 true []) fun h=>hZ h k (.tr (.nd ty' es' ks) rows []) fun h=>K ((d,.own k)::e) h
  else none
 |_,_,_=>none
def vW1 (e:fG) (h:aY) (d ty es:Nat) (kill:aA Nat) (s x:PV) (K:fG->aY->aB R):aB R:=
 match s with
 |.own k=>hK h k fun ob=>match ob with
  |.lst ty' es' g rows=>dO1 h es x fun new=>bif Nat.beq es' es&&(Nat.beq ty' ty&& !(gT ty'))then cF (appRows g rows new) fun rows=>
    kC e (d::kill) fun e=>oR k e fun e=>kX k h fun h=>hZ h k (.lst ty' es' g rows) fun h=>K ((d,.own k)::e) h
   else none
  |.lz ty' es' dp rows=>Vo h es dp x fun new=>bif Nat.beq es' es&&(Nat.beq ty' ty&& !(gT ty'))then cF (appRows false rows new) fun rows=>
    kC e (d::kill) fun e=>oR k e fun e=>kX k h fun h=>hZ h k (.lz ty' es' dp rows) fun h=>K ((d,.own k)::e) h
   else none
  |.tr t rows hs=>match x with
   |.own k2=>hK h k2 fun a=>dR1 e h d ty es kill k t rows hs k2 a K
   |_=>none
  |_=>none
 |_=>none
def sF (f:PV->aA Nat->(aA Nat->aB R)->aB R):aA PV->aA Nat->(aA Nat->aB R)->aB R
 |[],a,K=>K a
 |x::xs,a,K=>f x a fun a=>sF f xs a K
def Ot (f:PV->aA Nat->(aA Nat->aB R)->aB R):fG->aA Nat->(aA Nat->aB R)->aB R
 |[],a,K=>K a
 |(_,x)::xs,a,K=>f x a fun a=>Ot f xs a K
def lU:Nat->PV->aA Nat->(aA Nat->aB R)->aB R
 |0,_,_,_=>none
 |d+1,x,a,K=>match x with
  |.ref k _=>K (k::a)
  |.own k=>K (k::a)
  |.el k _ _=>K (k::a)
  |.map k=>K (k::a)
  |.yld k=>K (k::a)
  |.fn _ p q=>sF (lU d) p a fun a=>sF (lU d) q a K
  |.agg cs=>sF (lU d) cs a K
  |.tup cs=>sF (lU d) cs a K
  |_=>K a
def mL (h:aY):Nat->aA Nat->aA Nat->(aA Nat->aB R)->aB R
 |0,_,_,_=>none
 |_+1,[],a,K=>K a
 |n+1,k::b,a,K=>bif wL k a then mL h n b a K else hK h k fun ob=>match ob with
  |.box cs=>sF (lU 4) cs b fun b=>mL h n b (k::a) K
  |.fl cs=>sF (lU 4) cs b fun b=>mL h n b (k::a) K
  |.loop _ e _ _ _ _ _=>Ot (lU 4) e b fun b=>mL h n b (k::a) K
  |.tr _ _ hs=>sF (lU 4) (hs.map fun q=>q.2.2) b fun b=>mL h n b (k::a) K
  |_=>mL h n b (k::a) K
def Ou:aY->aA Nat->(aY->aY->aB R)->aB R
 |[],_,K=>K [] []
 |(k,o)::r,ns,K=>Ou r ns fun a b=>bif wL k ns then K ((k,o)::a) b else K a ((k,o)::b)
def kI:aY->Nat->Bool
 |[],_=>false
 |(j,_)::r,k=>bif Nat.beq j k then true else kI r k
def nL (p:Nat->Bool):Nat->PV->Bool
 |0,_=>false
 |d+1,x=>match x with
  |.ref k _|.own k|.el k _ _|.map k|.yld k=>p k
  |.fn _ a b=>a.all (nL p d)&&b.all (nL p d)
  |.agg cs=>cs.all (nL p d)
  |.tup cs=>cs.all (nL p d)
  |_=>true
def Ks (p:Nat->Bool):dN->Bool
 |.box cs=>cs.all (nL p 4)
 |.fl cs=>cs.all (nL p 4)
 |.loop _ e _ _ _ _ _=>e.all fun q=>nL p 4 q.2
 |.tr _ _ hs=>hs.all fun q=>nL p 4 q.2.2
 |_=>true
def lV (p:Nat->Bool):aY->Bool
 |[]=>true
 |(_,o)::r=>Ks p o&&lV p r
def pX:aY->fG->aY->(fG->aY->aB R)->aB R
 |[],e,h,K=>K e h
 |(k,o)::r,e,h,K=>match o with
  |.lst ty .. =>bif gT ty then pX r e h K else oR k e fun e=>kX k h fun h=>pX r e h K
  |.lz .. =>oR k e fun e=>kX k h fun h=>pX r e h K
  |.tr .. =>oR k e fun e=>kX k h fun h=>pX r e h K
  |_=>pX r e h K
def sI:aY->Bool
 |[]=>true
 |(_,o)::r=>match o with
  |.tr .. =>false
  |_=>sI r
def Aw:aY->aY->(aY->aB R)->aB R
 |[],b,K=>K b
 |(k,o)::r,b,K=>Aw r b fun r=>K ((k,o)::r)
def tH:aY->aA Nat
 |[]=>[]
 |(k,_)::r=>k::tH r
def Yz (hs:aY) (n:Nat):aY->Bool
 |[]=>true
 |(k,_)::r=>bif kI hs k||Nat.ble n k then Yz hs n r else false
def Za (a:aY):aA Nat->Bool
 |[]=>true
 |k::r=>bif kI a k then Za a r else false
def Zb (hs:aY):aY->Bool
 |[]=>true
 |(k,_)::r=>bif kI hs k then Zb hs r else false
def bnd:aY->Nat->Nat
 |[],m=>m
 |(k,_)::r,m=>bif Nat.blt k m then bnd r m else bnd r (k+1)
def Kt (hs:aY) (nw:Bool) (n:Nat) (v:PV) (h':aY) (n':Nat):aB (PV×aY×Nat):=
 sF (lU 5) [v] (tH hs) fun a=>mL h' 60 a [] fun b=>Ou h' b fun h2 _=>
  bif Za h2 (tH hs)&&(bif nw then Yz hs n h2 else Zb hs h2)&&(nL (kI h2) 5 v&&lV (kI h2) h2)then some (v,h2,bif nw then n' else 0)else none
def inK (run:aY->Nat->(PV->aY->Nat->aB (PV×aY×Nat))->aB (PV×aY×Nat)) (nw:Bool) (xs:aA PV) (e:fG) (h:aY) (n:Nat) (kill:aA Nat) (K:PV->fG->aY->Nat->aB R):aB R:=
 sF (lU 5) xs [] fun a=>mL h 60 a [] fun c=>Ou h c fun hs b=>
  bif xs.all (nL (kI hs) 5)&&(lV (kI hs) hs&&(sI hs||sI b))then
   cF (run hs (bif nw then n else bnd hs 0) (Kt hs nw (bif nw then n else bnd hs 0))) fun r=>
    fV r.1 fun v=>Aw r.2.1 [] fun h2=>kC e kill fun e=>pX h2 e b fun e b=>Aw h2 b fun h=>K v e h (bif nw then r.2.2 else n)
  else none
def Zc:aY->Bool
 |[]=>true
 |(_,o)::r=>(match o with|.lst ty _ _ _=> !(gT ty)|.tr _ _ hs=>hs.isEmpty|_=>false)&&Zc r
def Ku:Nat->PV->Bool
 |0,_=>false
 |d+1,x=>match x with
  |.v _|.is _ _|.ip _|.im _|.own _=>true
  |.agg cs=>cs.all (Ku d)
  |.tup cs=>cs.all (Ku d)
  |_=>false
def inE (run:aY->Nat->(PV->aY->Nat->aB (PV×aY×Nat))->aB (PV×aY×Nat)) (nw:Bool) (xs:aA PV) (e:fG) (h:aY) (n:Nat) (kill:aA Nat) (K:PV->fG->aY->Nat->aB R):aB R:=
 bif nw&&xs.all (dY 4)then cF (run [] n (Kt [] true n)) fun r=>bif Zc r.2.1&&Ku 4 r.1 then fV r.1 fun v=>Aw r.2.1 h fun h=>kC e kill fun e=>K v e h r.2.2 else none else none
def Ss:aY->(aY->aB R)->aB R
 |[],K=>K []
 |(k,o)::r,K=>match o with
  |.lst ty e g rows=>bif gT ty then none else Ss r fun r=>K ((k,.lst (ty+4294967296) e g rows)::r)
  |.lz .. =>none
  |.tr .. =>none
  |o=>Ss r fun r=>K ((k,o)::r)
def Ax:aY->aY->(aY->aB R)->aB R
 |_,[],K=>K []
 |h,(k,o)::r,K=>hK h k fun a=>match a with
  |.lst .. =>match o with
   |.lst ty e g rows=>bif gT ty&& !(gT (ty-4294967296))then Ax h r fun r=>K ((k,.lst (ty-4294967296) e g rows)::r)else none
   |_=>none
  |_=>match o with
   |.lst .. =>none
   |.lz .. =>none
   |.tr .. =>none
   |o=>Ax h r fun r=>K ((k,o)::r)
def lP1 (fx:Bool) (run:aY->Nat->(PV->aY->Nat->aB (PV×aY×Nat))->aB (PV×aY×Nat)) (nw:Bool) (xs:aA PV) (e:fG) (h:aY) (n:Nat) (kill:aA Nat) (K:PV->fG->aY->Nat->aB R):aB R:=
 bif fx then Ss h fun h1=>inK run nw xs e h1 n kill fun v e h2 n=>Ax h h2 fun a=>K v e a n
 else inK run nw xs e h n kill K
def Su (e:fG) (h:aY) (d es:Nat) (kill:aA Nat) (k:Nat) (hi:Int) (K:fG->aY->aB R):aB R:=
 hK h k fun ob=>match ob with
 |.lst ty es' _ rows=>bif Nat.beq es' es&& !(gT ty)then cF (uD rows hi) fun rows=>
   kC e (d::kill) fun e=>oR k e fun e=>kX k h fun h=>hZ h k (.lst ty es' true rows) fun h=>K ((d,.own k)::e) h
  else none
 |_=>none
def opK (C:yT) (X:NX) (k:gC) (as:aA PV) (h:aY) (n:Nat) (K:PV->aY->Nat->aB R):aB R:=
 match k,as with
 |.callF f,as=>bif X.is f then none else Av C f as h fun v=>K v h n
 |.callV,.fn f first cap::as=>bif X.is f then none else Av C f (first++as++cap) h fun v=>K v h n
 |k,as=>fB k as h n K
def Zd:aA (aB Nat)->aA PV->(aA PV->aB R)->aB R
 |[],[],K=>K []
 |o::os,x::xs,K=>Zd os xs fun xs=>match o with
  |none=>K (x::xs)
  |some e=>match x with
   |.v (.slice none 0 0)=>K (.is e []::xs)
   |_=>none
 |_,_,_=>none
def qG (ty e:Nat) (g:Bool):dN:=bif Nat.ble 4294967296 e then .lz ty (e%4294967296) (e/4294967296) []else .lst ty e g []
def Ov:aY->Nat->(aY->aB R)->aB R
 |[],_,K=>K []
 |(j,o)::r,k,K=>bif Nat.beq j k then Ov r k K else Ov r k fun r=>K ((j,o)::r)
def Ow:gC->Bool
 |.store _|.mapup .. =>true
 |_=>false
def lQ1:PV->Bool
 |.fn .. =>true
 |_=>false
def dI:jO->aA Nat->aA Nat
 |.nil,a=>a
 |.op d _ _ _ r,a=>d::dI r a
 |.sto _ _ _ r,a=>dI r a
 |.ifx d _ _ b _ _ r,a=>d::dI b (dI r a)
 |.ifn d _ _ b _ _ r,a=>d::dI b (dI r a)
 |.mkfl d _ _ _ _ r,a=>d::dI r a
 |.lax _ _ r,a=>dI r a
 |.own _ _ _ _ r,a=>dI r a
 |.ownc _ _ _ _ _ r,a=>dI r a
 |.laxc _ _ _ r,a=>dI r a
 |.opn d _ _ _ _ r,a=>d::dI r a
 |.bst d _ _ _ _ _ _ r,a=>d::dI r a
 |.gc _ r,a=>dI r a
 |.tre _ _ _ r,a=>dI r a
def vY1 (e:fG) (h:aY) (a:Nat) (K:fG->aY->aB R):aB R:=
 bif tE1 a e h then K e h else match lO1 a h with
 |none=>K e h
 |some kp=>hK h kp fun op=>match op with
  |.tr t rows hs=>match vZ hs a with
   |some (j,i)=>match gK t.ks j with
    |some t'=>hK h a fun ob=>vU1 t' ob fun es rows'=>cF (oP rows i j [.is es rows']) fun b=>
      oR a e fun e=>kX a h fun h=>hZ h a (.lst 0 0 true []) fun h=>Eo a (vJ hs a) fun hs=>hZ h kp (.tr t b hs) fun h=>K e h
    |none=>none
   |none=>none
  |_=>none
def gcK:aA Nat->fG->aY->(fG->aY->aB R)->aB R
 |[],e,h,K=>K e h
 |k::ks,e,h,K=>vY1 e h k fun e h=>gcK ks e h K
def dS1:PV->Bool
 |.own _=>true
 |.el .. =>true
 |_=>false
def Vp:aY->aA Nat->(aY->aB R)->aB R
 |[],_,K=>K []
 |(k,o)::r,ns,K=>Vp r ns fun r=>match o with
  |.box cs=>bif wL k ns|| !(cs.any dS1)then K ((k,.box cs)::r)else K ((k,.box (cs.map fun _=>.undef))::r)
  |o=>K ((k,o)::r)
def Iq:fG->aA Nat->(fG->aB R)->aB R
 |[],_,K=>K []
 |(j,v)::r,ks,K=>bif wL j ks then Iq r ks fun r=>K ((j,v)::r)else Iq r ks K
def Ir (ks:aA (Nat×TD)) (es:Nat):Nat->aA PV->aA (Nat×Nat×PV)->(aA (aA PV)->aA (Nat×Nat×PV)->aB R)->aB R
 |_,[],hs,K=>K [] hs
 |i,x::xs,hs,K=>mK x fun cs=>bif Nat.beq cs.length es then xM ks i 0 cs [] fun cs a=>Ir ks es (i+1) xs (a++hs) fun r hs=>K (cs::r) hs else none
def dT1 (e:fG) (h:aY) (d:Nat) (j:aB Nat) (K:PV->aB R):aB R:=uW e d fun v=>match j with
 |none=>K v
 |some j=>match v with
  |.agg cs=>jT j cs fun cs=>match cs with
   |c::_=>K c
   |[]=>none
  |.ref k o=>hK h k fun ob=>match ob with
   |.box cs=>jT (o+j) cs fun cs=>match cs with
    |c::_=>K c
    |[]=>none
   |_=>none
  |_=>none
def eS (C:yT) (X:NX) (dr:Nat):jO->fG->aY->Nat->(fG->aY->Nat->aB R)->aB R
 |.nil,e,h,n,K=>K e h n
 |.op d k xs kill dL,e,h,n,K=>rJ e xs fun as=>
  match k,as with
  |.append ty es _ _ false,[s,x]=>vW1 e h d ty es kill s x fun e h=>eS C X dr dL e h n K
  |.slc es false true false,[.own k,.v (.int _ hi)]=>Su e h d es kill k hi fun e h=>eS C X dr dL e h n K
  |.callF f,as=>bif X.is f then bif Nat.beq dr 5 then bif X.xw f then inE (X.run f as) (X.nw f) as e h n (d::kill) fun v e h n=>eS C X dr dL ((d,v)::e) h n K else none
    else bif X.xw f&& !(Nat.beq dr 0)then none else lP1 (wL 4294967296 kill) (X.run f as) (X.nw f) as e h n (d::kill) fun v e h n=>eS C X dr dL ((d,v)::e) h n K
   else Av C f as h fun v=>kC e (d::kill) fun e=>eS C X dr dL ((d,v)::e) h n K
  |.callV,.yld k::as=>bif Nat.beq dr 3||Nat.beq dr 5 then none else inK (X.yld k as) false (.yld k::as) e h n (d::kill) fun v e h n=>eS C X dr dL ((d,v)::e) h n K
  |.callV,.fn f first cap::as=>bif X.is f then bif Nat.beq dr 3||(Nat.beq dr 5||(X.xw f&& !(Nat.beq dr 0)))then none else lP1 (wL 4294967296 kill) (X.run f (first++as++cap)) (X.nw f) (first++as++cap) e h n (d::kill) fun v e h n=>eS C X dr dL ((d,v)::e) h n K
   else Av C f (first++as++cap) h fun v=>kC e (d::kill) fun e=>eS C X dr dL ((d,v)::e) h n K
  |k,as=>opK C X k as h n fun v h n=>kC e (d::kill) fun e=>eS C X dr dL ((d,v)::e) h n K
 |.sto k xs kill dL,e,h,n,K=>rJ e xs fun as=>fB k as h n fun _ h n=>kC e kill fun e=>eS C X dr dL e h n K
 |.ifx d c w body x kill dL,e,h,n,K=>uW e c fun a=>match a with
  |.v (.bool b)=>
   cF (bif w then Oh b (opsB C X body e h n x) (some false)else Oh b (some true) (opsB C X body e h n x))
    fun y=>kC e (d::dI body kill) fun e=>eS C X dr dL ((d,.v (.bool y))::e) h n K
  |_=>none
 |.ifn d c w body x kill dL,e,h,n,K=>uW e c fun a=>match a with
  |.v (.bool b)=>
   bif w then Oh b (eS C X dr body e h n fun e h n=>rJ e [x] fun vs=>match vs with
     |[y]=>kC e (d::dI body kill) fun e=>eS C X dr dL ((d,y)::e) h n K
     |_=>none) (kC e (d::dI body kill) fun e=>eS C X dr dL ((d,.v (.bool false))::e) h n K)
   else Oh b (kC e (d::dI body kill) fun e=>eS C X dr dL ((d,.v (.bool true))::e) h n K) (eS C X dr body e h n fun e h n=>rJ e [x] fun vs=>match vs with
     |[y]=>kC e (d::dI body kill) fun e=>eS C X dr dL ((d,y)::e) h n K
     |_=>none)
  |_=>none
 |.mkfl d ty zero xs kill dL,e,h,n,K=>rJ e xs fun as=>bif Nat.beq zero.length 1&&as.all lQ1 then kC e (d::kill) fun e=>eS C X dr dL ((d,.own n)::e) ((n,.fl as)::h) (n+1) K else none
 |.lax d es dL,e,h,n,K=>uW e d fun v=>match v,es with
  |.v (.slice none 0 0),[some s]=>kC e [d] fun e=>eS C X dr dL ((d,.is s [])::e) h n K
  |.agg cs,es=>Zd es cs fun cs=>kC e [d] fun e=>eS C X dr dL ((d,.agg cs)::e) h n K
  |_,_=>none
 |.own d ty s g dL,e,h,n,K=>uW e d fun v=>match v with
  |.v (.slice none 0 0)=>kC e [d] fun e=>eS C X dr dL ((d,.own n)::e) ((n,qG ty s g)::h) (n+1) K
  |_=>none
 |.laxc d j s dL,e,h,n,K=>uW e d fun v=>match v with
  |.ref k _=>hK h k fun ob=>match ob with
   |.box cs=>jT j cs fun cs'=>match cs' with
    |.v (.slice none 0 0)::_=>vW cs j [.is s []] fun cs=>hZ h k (.box cs) fun h=>eS C X dr dL e h n K
    |_=>none
   |_=>none
  |_=>none
 |.ownc d j ty s g dL,e,h,n,K=>uW e d fun v=>match v with
  |.ref k _=>hK h k fun ob=>match ob with
   |.box cs=>jT j cs fun cs'=>match cs' with
    |.v (.slice none 0 0)::_=>vW cs j [.own n] fun cs=>hZ h k (.box cs) fun h=>eS C X dr dL e ((n,qG ty s g)::h) (n+1) K
    |_=>none
   |_=>none
  |_=>none
 |.opn d m x kill js dL,e,h,n,K=>rJ e [x] fun vs=>match vs with
  |[.el k i o]=>hK h k fun ob=>match ob with
   |.tr t rows hs=>match m with
    |none=>cF (kT rows i o) fun c=>Oo t.ks i o [c] js [.undef] hs h n fun cs hs h n=>match cs with
     |[v]=>hZ h k (.tr t rows hs) fun h=>kC e (d::kill) fun e=>eS C X dr dL ((d,v)::e) h n K
     |_=>none
    |some m=>cF (lT rows i o m) fun cs0=>xL t.ks o cs0 fun cs=>Oo t.ks i o cs0 js cs hs h n fun cs hs h n=>hZ h k (.tr t rows hs) fun h=>kC e (d::kill) fun e=>eS C X dr dL ((d,.agg cs)::e) h n K
   |_=>none
  |_=>none
 |.bst d t len zero parts xs kill dL,e,h,n,K=>rJ e xs fun as=>match t with
  |.nd ty es ks=>bif Kr 0 parts&&(Nat.beq zero.length es&&(!(gT ty)&&Nat.beq parts.length len))then Ir ks es 0 as [] fun rows hs=>bif Nat.beq rows.length len then
    kC e (d::kill) fun e=>eS C X dr dL ((d,.own n)::e) ((n,.tr t rows hs)::h) (n+1) K else none else none
 |.gc keep dL,e,h,n,K=>Iq e keep fun e=>Ot (lU 5) e [] fun l=>mL h 60 l [] fun p=>Vp h p fun h=>gcK (tH h) e h fun e h=>eS C X dr dL e h n K
 |.tre d j t dL,e,h,n,K=>dT1 e h d j fun v=>match v with
  |.own k=>hK h k fun ob=>match ob with
   |.lst ty es _ []=>match t with
    |.nd ty' es' _=>bif Nat.beq ty ty'&&(Nat.beq es es'&& !(gT ty))then hZ h k (.tr t [] []) fun h=>eS C X dr dL e h n K else none
   |_=>none
  |_=>none
 where
 opsB (C:yT) (X:NX):jO->fG->aY->Nat->PX->aB Bool
 |.nil,e,_,_,x=>rJ e [x] fun vs=>match vs with
  |[.v (.bool b)]=>some b
  |_=>none
 |.op d k xs kill dL,e,h,n,x=>rJ e xs fun as=>
  bif Ow k then none else opK C X k as h n fun v h n=>kC e (d::kill) fun e=>opsB C X dL ((d,v)::e) h n x
 |.ifx d c w body x' kill dL,e,h,n,x=>uW e c fun a=>match a with
  |.v (.bool b)=>
   cF (bif w then Oh b (opsB C X body e h n x') (some false)else Oh b (some true) (opsB C X body e h n x'))
    fun y=>kC e (d::dI body kill) fun e=>opsB C X dL ((d,.v (.bool y))::e) h n x
  |_=>none
 |_,_,_,_,_=>none
def qH (n:Nat):Nat->PV->Bool
 |0,_=>false
 |d+1,x=>match x with
  |.ref k _|.own k|.el k _ _|.map k|.yld k=>Nat.blt k n
  |.fn _ a b=>a.all (qH n d)&&b.all (qH n d)
  |.agg cs=>cs.all (qH n d)
  |.tup cs=>cs.all (qH n d)
  |_=>true
def Vq:fG->Nat->(PV->aB R)->aB R->aB R
 |[],_,_,D=>D
 |(j,v)::r,i,K,D=>bif Nat.beq j i then K v else Vq r i K D
def Ox:fG->aA Nat->Nat->(fG->aB R)->aB R
 |_,[],_,K=>K []
 |e,i::is,n,K=>Vq e i (fun v=>bif qH n 4 v then Ox e is n fun r=>K ((i,v)::r)else none) (Ox e is n K)
def xN (n:Nat):dN->Bool
 |.box cs=>cs.all (qH n 4)
 |.fl cs=>cs.all (qH n 4)
 |.loop _ e _ _ _ _ _=>e.all fun q=>qH n 4 q.2
 |.tr _ _ hs=>hs.all fun q=>qH n 4 q.2.2
 |_=>true
def Vr:aY->aY->Nat->(aY->aB R)->aB R
 |[],_,_,K=>K []
 |(k,_)::r,h,n,K=>hK h k fun o=>bif xN n o then Vr r h n fun r=>K ((k,o)::r)else none
def bC {S E:Type} (body:S->aB (S⊕E)):Nat->S->aB E
 |0,_=>none
 |n+1,s=>(body s).bind fun r=>match r with
  |.inl s=>bC body n s
  |.inr e=>some e
def bS:Nat:=18446744073709551616
structure Mr where
 e:fG
 h:aY
def Et (body:fG->aY->(Ex->fG->aY->aB R)->aB R) (a:fG->aY->(Mr->aB R)->aB R):Nat->Mr->(Ex->Mr->aB R)->aB R
 |0,_,_=>none
 |m+1,s,K=>body s.e s.h fun x e h=>a e h fun s=>match x with
  |.normal=>Et body a m s K
  |.exit i=>K (.exit i) s
  |.ret=>K .ret s
def Vt:fG->aA Nat->(fG->aB R)->aB R
 |_,[],K=>K []
 |e,i::is,K=>uW e i fun v=>Vt e is fun r=>K ((i,v)::r)
def oS (keep:aA Nat) (h0:aY) (n0:Nat) (e:fG) (h:aY) (K:Mr->aB R):aB R:=
 Ox e keep n0 fun e=>Vr h0 h n0 fun h=>K ⟨e,h⟩
def lk (x:Ex) (a b:aA Nat):aA Nat:=match x with
 |.normal=>a
 |_=>b
abbrev gA (X:NX) (f:FuncId) (xs:aA PV) (hs:aY) (m:Nat) (nw:Bool):aB (PV×aY×Nat):=X.run f xs hs m (Kt hs nw m)
abbrev zL (X:NX) (k:Nat) (xs:aA PV) (hs:aY) (m:Nat):aB (PV×aY×Nat):=X.yld k xs hs m (Kt hs false m)
def fC:fG->Nat->aB PV
 |[],_=>none
 |(j,v)::r,i=>if j=i then some v else fC r i
def aJ:aY->Nat->aB dN
 |[],_=>none
 |(j,v)::r,i=>if j=i then some v else aJ r i
def xO:PV->aB Nat
 |.ref k _|.own k|.el k _ _|.map k=>some k
 |_=>none
def dU1:PV->Bool
 |.ip _|.v _|.is _ _|.im _=>true
 |_=>false
def Sv (h:aY) (x y:PV):Bool:=dU1 x||dU1 y||match xO x,xO y with
 |some k,some k'=> !Nat.beq k k'&&(aJ h k).isSome&&(aJ h k').isSome
 |_,_=>false
def Kv (h:aY) (k:Nat):Bool:=match aJ h k with
 |some (.box _)=>true
 |_=>false
def exB (h0:aY) (e:fG) (h:aY) (ex:aA (Nat×Nat×Nat×Nat)):Bool:=ex.all fun p=>bif Nat.beq p.2.2.1 999999 then(match fC e p.2.2.2 with
 |some (.ref k _)=>Kv h0 k&&Kv h k
 |_=>false)else match fC e p.2.2.1,fC e p.2.2.2 with
 |some x,some y=>Sv h x y
 |_,_=>false
def iJ (C:yT) (X:NX) {R:Type}:PC->fG->aY->Nat->(Ex->fG->aY->Nat->aB R)->aB R
 |.skip,e,h,n,K=>K .normal e h n
 |.reg ops,e,h,n,K=>eS C X 0 ops e h n (K .normal)
 |.regD dr ops _,e,h,n,K=>eS C X dr ops e h n (K .normal)
 |.dead _,_,_,_,_=>none
 |.regX dr ops _ ex,e,h,n,K=>eS C X dr ops e h n fun e h' n=>bif exB h e h' ex then K .normal e h' n else none
 |.seq a b,e,h,n,K=>iJ C X a e h n (fun x e h n=>match x with|.normal=>iJ C X b e h n K|.exit i=>K (.exit i) e h n|.ret=>K .ret e h n)
 |.cond c a b,e,h,n,K=>rJ e [c] fun vs=>match vs with
  |[.v (.bool t)]=>Oh t (iJ C X a e h n K) (iJ C X b e h n K)
  |_=>none
 |.condJ keep c a b,e,h,n,K=>rJ e [c] fun vs=>match vs with
  |[.v (.bool t)]=>cF (Oh t (iJ C X a e h n fun x e' h' _=>oS keep h n e' h' fun s=>some (x,s)) (iJ C X b e h n fun x e' h' _=>oS keep h n e' h' fun s=>some (x,s)))
    fun r=>K r.1 r.2.e r.2.h n
  |_=>none
 |.block id c,e,h,n,K=>iJ C X c e h n (fun x e h n=>match x with|.exit i=>bif Nat.beq i id then K .normal e h n else K (.exit i) e h n|.normal=>K .normal e h n|.ret=>K .ret e h n)
 |.loop keep kx c,e,h,n,K=>oS keep h n e h fun s0=>
   cF (bC (fun s:Mr=>iJ C X c s.e s.h n fun x e' h' _=>oS (lk x keep kx) h n e' h' fun s'=>some (match x with|.normal=>.inl s'|x=>.inr (x,s'))) bS s0)
    fun r=>K r.1 r.2.e r.2.h n
 |.condL c a b,e,h,n,K=>rJ e [c] fun vs=>match vs with
  |[.v (.bool t)]=>match t with
   |true=>iJ C X a e h n K
   |false=>iJ C X b e h n K
  |_=>none
 |.loopU m keep c,e,h,n,K=>oS keep h n e h fun s0=>
   Et (fun e h K=>iJ C X c e h n fun x e h _=>K x e h) (fun e' h' K=>oS keep h n e' h' K) m s0 fun x s=>K x s.e s.h n
 |.rangeF N keep f ps a b,e,h,n,K=>rJ e [f] fun vs=>match vs with
  |[.fn g first cap]=>bif X.is g then Vt e keep fun d=>
    inK (X.run g (first++[.yld n]++cap)) false (first++[.yld n]++cap) e ((n,.loop N d ps a b false none)::h) (n+1) [] fun _ e h m=>
     hK h n fun ob=>match ob with
     |.loop _ _ _ _ _ false fin=>Ov h n fun h=>match fin with
      |none=>K .normal e h m
      |some (.exit i)=>K (.exit i) e h m
      |some .ret=>K .ret e h m
      |some .normal=>none
     |_=>none
   else none
  |_=>none
 |.exit id,e,h,n,K=>K (.exit id) e h n
 |.ret,e,h,n,K=>K .ret e h n
end
end Go.P
namespace Go.P
open Go.Sim (AV AO Hp gN upd St IC IX Ex gC CK)
def aL2:PV->AV
 |.v x=>.v x
 |_=>.tup []
def eV:PV->AV
 |.v x=>.v x
 |.is _ []=>.v (.slice none 0 0)
 |.fn f [] []=>.fn (.func f) [] []
 |.agg cs=>.agg (cs.map aL2)
 |_=>.tup []
def isV:PV->Bool
 |.v _=>true
 |_=>false
def okC:PV->Bool
 |.v _=>true
 |.is _ []=>true
 |.fn _ [] []=>true
 |.agg cs=>cs.all isV
 |_=>false
def eX:PX->IX
 |.t i=>.t i
 |.c x=>.c (eV x)
def rK (g:aB (Nat×Bool)):jO->aA Sim.Op1
 |.nil=>[]
 |.op d k xs _ r=>⟨some d,k,xs.map eX,g⟩::rK g r
 |.sto k xs _ r=>⟨none,k,xs.map eX,g⟩::rK g r
 |.ifx d c w b x _ r=>rK (some (c,w)) b++⟨some d,.pick,if w then[.t c,eX x,.c (.v (.bool false))]else[.t c,.c (.v (.bool true)),eX x],g⟩::rK g r
 |.ifn d c w b x _ r=>rK (some (c,w)) b++⟨some d,.pick,if w then[.t c,eX x,.c (.v (.bool false))]else[.t c,.c (.v (.bool true)),eX x],g⟩::rK g r
 |.mkfl d ty zero xs _ r=>⟨some d,.buildSl ty 1 xs.length zero (List.range xs.length),xs.map eX,g⟩::rK g r
 |.lax _ _ r=>rK g r
 |.own _ _ _ _ r=>rK g r
 |.ownc _ _ _ _ _ r=>rK g r
 |.laxc _ _ _ r=>rK g r
 |.opn d m x _ _ r=>⟨some d,(match m with|none=>.loadS|some m=>.loadA m),[eX x],g⟩::rK g r
 |.bst d t len zero parts xs _ r=>⟨some d,(match t with|.nd ty e _=>.buildSl ty e len zero parts),xs.map eX,g⟩::rK g r
 |.gc _ r=>rK g r
 |.tre _ _ _ r=>rK g r
def xP:jO->Bool
 |.nil=>true
 |.lax _ _ r=>xP r
 |.own _ _ _ _ r=>xP r
 |.ownc _ _ _ _ _ r=>xP r
 |.laxc _ _ _ r=>xP r
 |.gc _ r=>xP r
 |.tre _ _ _ r=>xP r
 |_=>false
def tF1:jO->Bool
 |.nil=>true
 |_=>false
def lW:PC->IC
 |.skip=>.skip
 |.reg ops=>.reg (rK none ops)
 |.regD _ ops before=>.regD (rK none ops) before
 |.dead c=>c
 |.regX _ ops before _=>.regD (rK none ops) before
 |.seq a b=>match a with
  |.reg ops=>if xP ops&& !tF1 ops then lW b else .seq (.reg (rK none ops)) (lW b)
  |a=>match b with
   |.reg ops=>if xP ops&& !tF1 ops then lW a else .seq (lW a) (.reg (rK none ops))
   |b=>.seq (lW a) (lW b)
 |.cond c a b=>.cond (eX c) (lW a) (lW b)
 |.condJ _ c a b=>.cond (eX c) (lW a) (lW b)
 |.condL c a b=>.cond (eX c) (lW a) (lW b)
 |.block id c=>.block id (lW c)
 |.loop _ _ c=>.loop (lW c)
 |.loopU _ _ c=>.loop (lW c)
 |.rangeF _ _ f ps a b=>.rangeF (eX f) ps (lW a) (lW b)
 |.exit id=>.exit id
 |.ret=>.ret
end Go.P
namespace Go.P
open Go.Sim (AV AO Hp gN upd St IC IX Ex gC CK Wf)
inductive RC:Bool->PV->AV->Prop
 |v {p:Bool} (x:Value):RC p (.v x) (.v x)
 |is {p:Bool} {e:Nat} {rows:List (List PV)} {rows':List (List AV)} (hl:rows.length=rows'.length)
   (hr:∀(i:Nat) (r:List PV) (r':List AV),rows[i]? =some r->rows'[i]? =some r'->r.length=r'.length)
   (hc:∀(i:Nat) (r:List PV) (r':List AV) (j:Nat) (x:PV) (y:AV),rows[i]? =some r->rows'[i]? =some r'->r[j]? =some x->r'[j]? =some y->RC true x y):RC p (.is e rows) (.is e rows')
 |isn {p:Bool} {e:Nat}:RC p (.is e []) (.v (.slice none 0 0))
 |ip {p:Bool} {cs:List PV} {cs':List AV} (hl:cs.length=cs'.length) (hc:∀(j:Nat) (x:PV) (y:AV),cs[j]? =some x->cs'[j]? =some y->RC false x y):RC p (.ip cs) (.ip cs')
 |im {es:List (PV×PV)} {es':List (AV×AV)} (hl:es.length=es'.length)
   (hk:∀(j:Nat) (x:PV×PV) (y:AV×AV),es[j]? =some x->es'[j]? =some y->RC false x.1 y.1)
   (hv:∀(j:Nat) (x:PV×PV) (y:AV×AV),es[j]? =some x->es'[j]? =some y->RC false x.2 y.2):RC false (.im es) (.im es')
 |fn {f:FuncId} {a b:List PV} {a' b':List AV} (h1:a.length=a'.length) (h2:b.length=b'.length)
   (v1:∀(j:Nat) (x:PV) (y:AV),a[j]? =some x->a'[j]? =some y->RC false x y) (v2:∀(j:Nat) (x:PV) (y:AV),b[j]? =some x->b'[j]? =some y->RC false x y):RC false (.fn f a b) (.fn (.func f) a' b')
 |agg {cs:List PV} {cs':List AV} (hl:cs.length=cs'.length) (hc:∀(j:Nat) (x:PV) (y:AV),cs[j]? =some x->cs'[j]? =some y->RC false x y):RC false (.agg cs) (.agg cs')
 |tup {cs:List PV} {cs':List AV} (hl:cs.length=cs'.length) (hc:∀(j:Nat) (x:PV) (y:AV),cs[j]? =some x->cs'[j]? =some y->RC false x y):RC false (.tup cs) (.tup cs')
def RC.weak {p:Bool} {x:PV} {y:AV} (h:RC p x y):RC false x y:=by
 cases h with
 |v x=>exact .v x
 |is hl hr hc=>exact .is hl hr hc
 |isn=>exact .isn
 |ip hl hc=>exact .ip hl hc
 |im a b c=>exact .im a b c
 |fn a b c d=>exact .fn a b c d
 |agg a b=>exact .agg a b
 |tup a b=>exact .tup a b
def RC.plain {x:PV} {y:AV} (h:RC false x y) (hp:gZ x=true):RC true x y:=by
 cases h with
 |v x=>exact .v x
 |is hl hr hc=>exact .is hl hr hc
 |isn=>exact .isn
 |ip hl hc=>exact .ip hl hc
 |_=>simp[gZ]at hp
def LR (R:PV->AV->Prop) (xs:aA PV) (ys:aA AV):Prop:=xs.length=ys.length/\∀(j:Nat) (x:PV) (y:AV),xs[j]? =some x->ys[j]? =some y->R x y
section
variable {R:PV->AV->Prop}
def LR.nil:LR R [] []:=⟨rfl,fun j x y h=>by simp at h⟩
def LR.cons {x:PV} {y:AV} {xs:aA PV} {ys:aA AV} (h:R x y) (d:LR R xs ys):LR R (x::xs) (y::ys):=
 ⟨by simp[d.1],fun j a b c hb=>by
  cases j with
  |zero=>simp at c hb;subst c hb;exact h
  |succ j=>simp at c hb;exact d.2 j a b c hb⟩
def LR.head {x:PV} {y:AV} {xs:aA PV} {ys:aA AV} (h:LR R (x::xs) (y::ys)):R x y:=h.2 0 x y rfl rfl
def LR.tail {x:PV} {y:AV} {xs:aA PV} {ys:aA AV} (h:LR R (x::xs) (y::ys)):LR R xs ys:=
 ⟨by simpa using h.1,fun j a b c hb=>h.2 (j+1) a b (by simpa using c) (by simpa using hb)⟩
def LR.inv_nil {ys:aA AV} (h:LR R [] ys):ys=[]:=by
 have:=h.1;cases ys with
 |nil=>rfl
 |cons a as=>simp at this
def LR.inv_cons {x:PV} {xs:aA PV} {ys:aA AV} (h:LR R (x::xs) ys):∃y b,ys=y::b/\R x y/\LR R xs b:=by
 cases ys with
 |nil=>have:=h.1;simp at this
 |cons a as=>exact⟨a,as,rfl,h.head,h.tail⟩
def LR.append {xs xs':aA PV} {ys b:aA AV} (h:LR R xs ys) (h':LR R xs' b):LR R (xs++xs') (ys++b):=by
 induction xs generalizing ys with
 |nil=>rw[h.inv_nil];exact h'
 |cons a as ih=>
  obtain⟨y,c,rfl,h1,h2⟩:=h.inv_cons;exact .cons h1 (ih h2)
def LR.take {xs:aA PV} {ys:aA AV} (h:LR R xs ys) (n:Nat):LR R (xs.take n) (ys.take n):=
 ⟨by simp[h.1],fun j x y a hy=>by
  rw[aY3]at a hy
  split at a
  rename_i b
  rw[aE3 b]at hy
  exact h.2 j x y a hy
  cases a⟩
def LR.drop {xs:aA PV} {ys:aA AV} (h:LR R xs ys) (n:Nat):LR R (xs.drop n) (ys.drop n):=
 ⟨by simp[h.1],fun j x y a hy=>by
  rw[bH3]at a hy
  exact h.2 _ x y a hy⟩
def LR.get {xs:aA PV} {ys:aA AV} (h:LR R xs ys) {j:Nat} {x:PV} (b:xs[j]? =some x):∃y,ys[j]? =some y/\R x y:=by
 have a:j<ys.length:=by rw[<-h.1];exact(zZ2.1 b).1
 exact⟨ys[j],by simp[a],h.2 j x _ b (by simp[a])⟩
def LR.mono {R':PV->AV->Prop} {xs:aA PV} {ys:aA AV} (h:LR R xs ys) (c:∀x y,R x y->R' x y):LR R' xs ys:=⟨h.1,fun j x y a b=>c x y (h.2 j x y a b)⟩
def LR.set {xs:aA PV} {ys:aA AV} (h:LR R xs ys) {x:PV} {y:AV} (d:R x y) (n:Nat):LR R (xs.set n x) (ys.set n y):=
 ⟨by simp[h.1],fun j a b c hb=>by
  rw[aX3]at c hb
  split at c
  rename_i e;subst e
  rw[aE3 rfl]at hb
  split at c
  split at hb
  cases c;cases hb;exact d
  cases hb
  cases c
  rename_i e
  rw[aG3 e]at hb
  exact h.2 j a b c hb⟩
def LR.setL {xs xs':aA PV} {ys b:aA AV} (h:LR R xs ys) (h':LR R xs' b) (o:Nat):LR R (Sim.setL xs o xs') (Sim.setL ys o b):=by
 induction xs' generalizing xs ys b o with
 |nil=>rw[h'.inv_nil];exact h
 |cons a as ih=>
  obtain⟨y,c,rfl,h1,h2⟩:=h'.inv_cons;exact ih (h.set h1 o) h2 (o+1)
end
def RR (rows:aA (aA PV)) (rows':aA (aA AV)):Prop:=
 rows.length=rows'.length/\∀(i:Nat) (r:aA PV) (r':aA AV),rows[i]? =some r->rows'[i]? =some r'->LR (RC true) r r'
def RR.is {p:Bool} {e:Nat} {rows:aA (aA PV)} {rows':aA (aA AV)} (h:RR rows rows'):RC p (.is e rows) (.is e rows'):=
 .is h.1 (fun i r r' a b=>(h.2 i r r' a b).1) (fun i r r' j x y a b c d=>(h.2 i r r' a b).2 j x y c d)
def RR.of_is {rows:aA (aA PV)} {rows':aA (aA AV)} (hl:rows.length=rows'.length)
   (hr:∀(i:Nat) (r:aA PV) (r':aA AV),rows[i]? =some r->rows'[i]? =some r'->r.length=r'.length)
   (hc:∀(i:Nat) (r:aA PV) (r':aA AV) (j:Nat) (x:PV) (y:AV),rows[i]? =some r->rows'[i]? =some r'->r[j]? =some x->r'[j]? =some y->RC true x y):RR rows rows':=
 ⟨hl,fun i r r' a b=>⟨hr i r r' a b,fun j x y c d=>hc i r r' j x y a b c d⟩⟩
def RR.nil:RR [] []:=⟨rfl,fun i r r' h=>by simp at h⟩
def RR.cons {r:aA PV} {r':aA AV} {rows:aA (aA PV)} {rows':aA (aA AV)} (h:LR (RC true) r r') (d:RR rows rows'):RR (r::rows) (r'::rows'):=
 ⟨by simp[d.1],fun j a b c hb=>by
  cases j with
  |zero=>simp at c hb;subst c hb;exact h
  |succ j=>simp at c hb;exact d.2 j a b c hb⟩
def RR.get {rows:aA (aA PV)} {rows':aA (aA AV)} (h:RR rows rows') {i:Nat} {r:aA PV} (hr:rows[i]? =some r):∃r',rows'[i]? =some r'/\LR (RC true) r r':=by
 have a:i<rows'.length:=by rw[<-h.1];exact(zZ2.1 hr).1
 exact⟨rows'[i],by simp[a],h.2 i r _ hr (by simp[a])⟩
def RR.append {a b:aA (aA PV)} {a' b':aA (aA AV)} (h:RR a a') (k:RR b b'):RR (a++b) (a'++b'):=
 ⟨by simp[h.1,k.1],fun i r r' h1 h2=>by
  rw[cG3]at h1 h2
  rw[<-h.1]at h2
  split at h1
  rename_i hi;rw[aE3 hi]at h2;exact h.2 i r r' h1 h2
  rename_i hi;rw[aG3 hi]at h2;exact k.2 _ r r' h1 h2⟩
def RR.take {a:aA (aA PV)} {a':aA (aA AV)} (h:RR a a') (n:Nat):RR (a.take n) (a'.take n):=
 ⟨by simp[h.1],fun j x y b hy=>by
  rw[aY3]at b hy
  split at b
  rename_i c;rw[aE3 c]at hy;exact h.2 j x y b hy
  cases b⟩
def RR.drop {a:aA (aA PV)} {a':aA (aA AV)} (h:RR a a') (n:Nat):RR (a.drop n) (a'.drop n):=
 ⟨by simp[h.1],fun j x y b hy=>by
  rw[bH3]at b hy
  exact h.2 _ x y b hy⟩
def RR.set {a:aA (aA PV)} {a':aA (aA AV)} (h:RR a a') {x:aA PV} {y:aA AV} (c:LR (RC true) x y) (n:Nat):RR (a.set n x) (a'.set n y):=
 ⟨by simp[h.1],fun j p q b hb=>by
  rw[aX3]at b hb
  split at b
  rename_i e;subst e
  rw[aE3 rfl]at hb
  split at b
  split at hb
  cases b;cases hb;exact c
  cases hb
  cases b
  rename_i e
  rw[aG3 e]at hb
  exact h.2 j p q b hb⟩
def RR.replicate {r:aA PV} {r':aA AV} (h:LR (RC true) r r') (n:Nat):RR (List.replicate n r) (List.replicate n r'):=
 ⟨by simp,fun i x y a hy=>by
  simp only[dN3]at a hy
  split at a
  grind
  cases a⟩
def ER (es:aA (PV×PV)) (es':aA (AV×AV)):Prop:=
 es.length=es'.length/\∀(j:Nat) (x:PV×PV) (y:AV×AV),es[j]? =some x->es'[j]? =some y->RC false x.1 y.1/\RC false x.2 y.2
def ER.im {es:aA (PV×PV)} {es':aA (AV×AV)} (h:ER es es'):RC false (.im es) (.im es'):=.im h.1 (fun j x y a b=>(h.2 j x y a b).1) (fun j x y a b=>(h.2 j x y a b).2)
def RK (x:PV) (y:AV):Prop:=RC true x y\/∃cs cs',x=.agg cs/\y=.agg cs'/\LR (RC true) cs cs'
def RK.rc {x:PV} {y:AV} (h:RK x y):RC false x y:=by
 rcases h with h|⟨cs,cs',rfl,rfl,h⟩
 exact h.weak;exact .agg h.1 fun j x y a b=>(h.2 j x y a b).weak
def EM (es:aA (PV×PV)) (es':aA (AV×AV)):Prop:=
 es.length=es'.length/\∀(j:Nat) (x:PV×PV) (y:AV×AV),es[j]? =some x->es'[j]? =some y->RK x.1 y.1/\RK x.2 y.2
def EM.er {es:aA (PV×PV)} {es':aA (AV×AV)} (h:EM es es'):ER es es':=⟨h.1,fun j x y a b=>⟨(h.2 j x y a b).1.rc,(h.2 j x y a b).2.rc⟩⟩
inductive Pl where
 |nil
 |atp (id ver e len:Nat)
structure Cx where
 f:Nat->Option Pl
 z:Nat->Option AO
 w:Nat->Option (Nat×Nat×Nat)
instance:CoeFun Cx fun _=>Nat->Option Pl:=⟨Cx.f⟩
def Cx.le (C C':Cx):Prop:=(∀k pl,C k=some pl->C' k=some pl)/\∀id o,C.z id=some o->C'.z id=some o
def Cx.le.refl (C:Cx):C.le C:=⟨fun _ _ h=>h,fun _ _ h=>h⟩
def Cx.le.trans {A B C:Cx} (h:A.le B) (k:B.le C):A.le C:=⟨fun a b c=>k.1 a b (h.1 a b c),fun a b c=>k.2 a b (h.2 a b c)⟩
def RZ (z:Nat->aB AO):Nat->PV->AV->Prop
 |0,x,y=>RC true x y
 |d+1,x,y=>RC true x y\/∃e rows id ver ty els,x=.is e rows/\y=.sl e id ver 0 rows.length none/\z id=some (.arr false ty e ver els)/\rows.length<=els.length/\
   ∀(i:Nat) (r:aA PV) (r':aA AV),rows[i]? =some r->els[i]? =some r'->LR (RZ z d) r r'
def RZ.of {z:Nat->aB AO} {d:Nat} {x:PV} {y:AV} (h:RC true x y):RZ z d x y:=by
 cases d with
 |zero=>exact h
 |succ d=>exact .inl h
def RZ.up1 {z:Nat->aB AO}:∀{d:Nat} {x:PV} {y:AV},RZ z d x y->RZ z (d+1) x y
 |0,_,_,h=>.inl h
 |d+1,x,y,h=>by
  rcases h with h|⟨e,rows,id,ver,ty,els,h1,h2,h3,h4,h5⟩
  exact .inl h
  exact .inr ⟨e,rows,id,ver,ty,els,h1,h2,h3,h4,fun i r r' a b=>(h5 i r r' a b).mono fun x y h=>RZ.up1 h⟩
def RZ.up {z:Nat->aB AO} {d a:Nat} (hd:d<=a) {x:PV} {y:AV} (h:RZ z d x y):RZ z a x y:=by
 induction hd with
 |refl=>exact h
 |step _ ih=>exact ih.up1
def RZ.mono {z f:Nat->aB AO} (c:∀id o,z id=some o->f id=some o):∀{d:Nat} {x:PV} {y:AV},RZ z d x y->RZ f d x y
 |0,_,_,h=>h
 |d+1,x,y,h=>by
  rcases h with h|⟨e,rows,id,ver,ty,els,h1,h2,h3,h4,h5⟩
  exact .inl h
  exact .inr ⟨e,rows,id,ver,ty,els,h1,h2,c _ _ h3,h4,fun i r r' a b=>(h5 i r r' a b).mono fun x y h=>RZ.mono c h⟩
def Is (z:Nat->aB AO) (d:Nat) (rows:aA (aA PV)) (rows':aA (aA AV)):Prop:=
 rows.length=rows'.length/\∀(i:Nat) (r:aA PV) (r':aA AV),rows[i]? =some r->rows'[i]? =some r'->LR (RZ z d) r r'
def RR.z {z:Nat->aB AO} {d:Nat} {rows:aA (aA PV)} {rows':aA (aA AV)} (h:RR rows rows'):Is z d rows rows':=⟨h.1,fun i r r' a b=>(h.2 i r r' a b).mono fun _ _ h=>RZ.of h⟩
def Is.mono {z c:Nat->aB AO} (e:∀id o,z id=some o->c id=some o) {d:Nat} {rows:aA (aA PV)} {rows':aA (aA AV)} (h:Is z d rows rows'):Is c d rows rows':=⟨h.1,fun i r r' a b=>(h.2 i r r' a b).mono fun _ _ h=>RZ.mono e h⟩
def Is.up {z:Nat->aB AO} {d c:Nat} (hd:d<=c) {rows:aA (aA PV)} {rows':aA (aA AV)} (h:Is z d rows rows'):Is z c rows rows':=⟨h.1,fun i r r' a b=>(h.2 i r r' a b).mono fun _ _ h=>RZ.up hd h⟩
def Is.nil {z:Nat->aB AO} {d:Nat}:Is z d [] []:=⟨rfl,fun i r r' h=>by simp at h⟩
def Is.append {z:Nat->aB AO} {d:Nat} {a b:aA (aA PV)} {a' b':aA (aA AV)} (h:Is z d a a') (k:Is z d b b'):Is z d (a++b) (a'++b'):=
 ⟨by simp[h.1,k.1],fun i r r' h1 h2=>by
  rw[cG3]at h1 h2
  rw[<-h.1]at h2
  split at h1
  rename_i hi;rw[aE3 hi]at h2;exact h.2 i r r' h1 h2
  rename_i hi;rw[aG3 hi]at h2;exact k.2 _ r r' h1 h2⟩
def Nml (c:AV):Prop:=Sim.nameOK (fun _=>false) 1 c=true
def RC.nml {x:PV} {y:AV} (h:RC true x y):Nml y:=by cases h<;>rfl
def SL (n:Nat) (els:aA (aA AV)):Prop:=∀(i:Nat) (row:aA AV),n<=i->els[i]? =some row->∀c∈row,Nml c
def SL.exact {n:Nat} {els:aA (aA AV)} (h:els.length<=n):SL n els:=fun i row hi hr=>by grind
def LS.set {rows:aA (aA PV)} {els:aA (aA AV)} (h:rows.length<=els.length/\SL rows.length els) {i:Nat} {x row:aA PV} {r:aA AV} (hi:rows[i]? =some row):(rows.set i x).length<=(els.set i r).length/\SL (rows.set i x).length (els.set i r):=by
 have b:=(zZ2.1 hi).1;rw[bV3,bV3];refine⟨h.1,fun j row a hr=>?_⟩;rw[aP3 (by omega)]at hr;exact h.2 j row a hr
def SL.cut {rows:aA (aA PV)} {els:aA (aA AV)} (hr:RR rows (els.take rows.length)) (h:SL rows.length els) (n:Nat):SL n els:=fun i row _ a c hc=>by
 by_cases hi:i<rows.length
 have h2:(els.take rows.length)[i]? =some row:=by rw[aY3,aE3 hi];exact a
 obtain⟨j,d⟩:=aS3.1 hc
 have hl:=hr.2 i rows[i] row (by simp) h2
 have b:j<(rows[i]).length:=by rw[hl.1];exact(zZ2.1 d).1
 exact(hl.2 j _ c (aO3 b) d).nml
 exact h i row (by omega) a c hc
def fO (L:Nat->aB AO) (w:Nat->aB (Nat×Nat×Nat)) (lim nS:Nat):Nat->Nat×Nat×Nat->TD->PV->AV->Prop
 |0,_,_,_,_=>False
 |d+1,sl,.nd ty e ks,x,y=>∃rows,x=.is e rows/\((rows=[]/\y=.v (.slice none 0 0))\/
   ∃id ver els,y=.sl e id ver 0 rows.length none/\w id=some sl/\lim<=id/\id<nS/\gT ty=false/\L id=some (.arr false ty e ver els)/\(rows.length<=els.length/\SL rows.length els)/\
    ∀(i:Nat) (r:aA PV) (r':aA AV),rows[i]? =some r->els[i]? =some r'->r.length=r'.length/\∀(j:Nat) (a:PV) (b:AV),r[j]? =some a->r'[j]? =some b->match gK ks j with
     |none=>RC true a b
     |some t=>fO L w lim nS d (id,i,j) t a b)
def Bk (hs:aA (Nat×Nat×PV)) (i j:Nat):Prop:=∃x,(j,i,x)∈hs
inductive RV (C:Cx):PV->AV->Prop
 |cl {x:PV} {y:AV} (h:RC false x y):RV C x y
 |undef {y:AV}:RV C .undef y
 |ref {k o id ver e len:Nat} (h:C k=some (.atp id ver e len)):RV C (.ref k o) (.ptr id ver 0 o)
 |own {k id ver e len:Nat} (h:C k=some (.atp id ver e len)):RV C (.own k) (.sl e id ver 0 len none)
 |ownn {k:Nat} {y:AV} (h:C k=some .nil) (hy:y=.v (.slice none 0 0)):RV C (.own k) y
 |el {k i o id ver e len:Nat} (h:C k=some (.atp id ver e len)):RV C (.el k i o) (.ptr id ver i o)
 |map {k id ver e len:Nat} (h:C k=some (.atp id ver e len)):RV C (.map k) (.map id)
 |fn {f:FuncId} {a b:List PV} {a' b':List AV} (h1:a.length=a'.length) (h2:b.length=b'.length)
   (v1:∀(j:Nat) (x:PV) (y:AV),a[j]? =some x->a'[j]? =some y->RV C x y) (v2:∀(j:Nat) (x:PV) (y:AV),b[j]? =some x->b'[j]? =some y->RV C x y):RV C (.fn f a b) (.fn (.func f) a' b')
 |yld {k id ver e len:Nat} (h:C k=some (.atp id ver e len)):RV C (.yld k) (.fn (.yield id) [] [])
 |agg {cs:List PV} {cs':List AV} (hl:cs.length=cs'.length) (hc:∀(j:Nat) (x:PV) (y:AV),cs[j]? =some x->cs'[j]? =some y->RV C x y):RV C (.agg cs) (.agg cs')
 |tup {cs:List PV} {cs':List AV} (hl:cs.length=cs'.length) (hc:∀(j:Nat) (x:PV) (y:AV),cs[j]? =some x->cs'[j]? =some y->RV C x y):RV C (.tup cs) (.tup cs')
 |zs {d e:Nat} {rows:List (List PV)} {y:AV} (h:RZ C.z d (.is e rows) y):RV C (.zs d e rows) y
 |zm {es:List (PV×PV)} {id:Nat} {es':List (AV×AV)} (h:C.z id=some (.map es')) (he:EM es es'):RV C (.zm es) (.map id)
 |zm0:RV C (.zm []) (.v (.map none))
def RV.mono {C C':Cx} (a:C.le C') {x:PV} {y:AV} (h:RV C x y):RV C' x y:=by
 induction h with
 |cl h=>exact .cl h
 |undef=>exact .undef
 |ref h=>exact .ref (a.1 _ _ h)
 |own h=>exact .own (a.1 _ _ h)
 |ownn h hy=>exact .ownn (a.1 _ _ h) hy
 |el h=>exact .el (a.1 _ _ h)
 |map h=>exact .map (a.1 _ _ h)
 |yld h=>exact .yld (a.1 _ _ h)
 |fn h1 h2 v1 v2 i1 i2=>exact .fn h1 h2 i1 i2
 |agg hl hc ih=>exact .agg hl ih
 |tup hl hc ih=>exact .tup hl ih
 |zs h=>exact .zs (RZ.mono a.2 h)
 |zm h he=>exact .zm (a.2 _ _ h) he
 |zm0=>exact .zm0
def eN (C:Cx) (e:fG) (t:aA AV):Prop:=∀i v,fC e i=some v->∃y,t[i]? =some y/\RV C v y
def StR:Bool->aB Ex->LoopState->aB IC->Prop
 |false,none,st,pend=>st=.ready/\pend=none
 |true,none,st,pend=>st=.busy
 |false,some (.exit i),st,pend=>st=.done/\pend=some (.exit i)
 |false,some .ret,st,pend=>st=.done/\pend=some .ret
 |_,_,_,_=>False
def TC (C:Cx) (L:Nat->aB AO) (lim nS d id:Nat) (ks:aA (Nat×TD)) (hs:aA (Nat×Nat×PV)) (i j:Nat) (a:PV) (b:AV):Prop:=match gK ks j with
 |none=>RC true a b
 |some t=>(Bk hs i j/\∀x,(j,i,x)∈hs->RV C x b)\/(¬Bk hs i j/\fO L C.w lim nS d (id,i,j) t a b)
def fX (C:Cx) (L:Nat->aB AO) (lim nS:Nat):dN->Pl->Prop
 |.box cells,.atp id ver _ _=>lim<=id/\id<nS/\∃ty esz row,L id=some (.arr true ty esz ver [row])/\LR (RV C) cells row
 |.lst _ e _ rows,.nil=>rows=[]
 |.lst ty e g rows,.atp id ver e' len=>lim<=id/\id<nS/\e'=e/\len=rows.length/\∃els,L id=some (.arr false (Ip ty) e ver els)/\RR rows (els.take rows.length)/\(rows.length<=els.length/\SL rows.length els)/\(g=false->els.length=rows.length)
 |.lz _ _ _ rows,.nil=>rows=[]
 |.lz ty e dp rows,.atp id ver e' len=>lim<=id/\id<nS/\e'=e/\len=rows.length/\gT ty=false/\∃els,L id=some (.arr false ty e ver els)/\Is C.z dp rows els
 |.mp es,.atp id _ _ _=>lim<=id/\id<nS/\∃es',L id=some (.map es')/\EM es es'
 |.tr _ rows hs,.nil=>rows=[]/\hs=[]
 |.tr (.nd ty e ks) rows hs,.atp id ver e' len=>lim<=id/\id<nS/\e'=e/\len=rows.length/\gT ty=false/\∃els d,L id=some (.arr false ty e ver els)/\(rows.length<=els.length/\SL rows.length els)/\
   ∀(i:Nat) (r:aA PV) (r':aA AV),rows[i]? =some r->els[i]? =some r'->r.length=r'.length/\∀(j:Nat) (a:PV) (b:AV),r[j]? =some a->r'[j]? =some b->TC C L lim nS d id ks hs i j a b
 |.fl fs,.atp id ver e len=>lim<=id/\id<nS/\e=1/\len=fs.length/\∃ty els,L id=some (.arr false ty 1 ver els)/\els.length=fs.length/\∀(i:Nat) (f:PV) (row:aA AV),fs[i]? =some f->els[i]? =some row->LR (RV C) [f] row
 |.loop N e ps a b busy fin,.atp id _ _ _=>lim<=id/\id<nS/\∃st pend tmps,L id=some (.loop st pend tmps ps (lW a) (lW b))/\tmps.length=N/\eN C e tmps/\StR busy fin st pend
 |_,_=>False
def nbO:AO->Bool
 |.arr bx _ _ _ _=> !bx
 |.map _=>true
 |_=>false
structure HR (C:Cx) (h:aY) (L:Nat->Option AO) (lim nS:Nat):Prop where
 ob:∀k po,aJ h k=some po->∃pl,C k=some pl/\fX C L lim nS po pl
 inj:∀k k' id v e l v' e' l',aJ h k≠none->aJ h k'≠none->C k=some (.atp id v e l)->C k'=some (.atp id v' e' l')->k=k'
 zr:∀id o,C.z id=some o->L id=some o/\id<nS/\(∀k v e l,aJ h k≠none->C k≠some (.atp id v e l))/\nbO o=true
 wn:∀k id v e l,aJ h k≠none->C k=some (.atp id v e l)->C.w id=none
 wb:∀id sl,C.w id=some sl->id<nS/\sl.1<nS
 wz:∀id o,C.z id=some o->C.w id=none
def Own (C:Cx) (h:aY) (id:Nat):Prop:=(∃k v e l,aJ h k≠none/\C k=some (.atp id v e l))\/C.w id≠none
def gE:aA gN->aA gN->Prop
 |[],[]=>True
 |.mark::a,.mark::b=>gE a b
 |.ob i _::a,.ob j _::b=>i=j/\gE a b
 |_,_=>False
def Sk (h h':aA gN) (n:Nat):Prop:=∃pre r,h'=pre++r/\gE r h/\∀e∈pre,∃i o,e=.ob i o/\n<=i
def gE.refl:∀h,gE h h
 |[]=>trivial
 |.mark::a=>gE.refl a
 |.ob _ _::a=>⟨rfl,gE.refl a⟩
def gE.trans:∀{a b c:aA gN},gE a b->gE b c->gE a c
 |[],[],[],_,_=>trivial
 |.mark::a,.mark::b,.mark::c,h,k=>gE.trans (a:=a) h k
 |.ob _ _::a,.ob _ _::b,.ob _ _::c,h,k=>⟨h.1.trans k.1,gE.trans h.2 k.2⟩
def gE.upd:∀(h:aA gN) (id:Nat) (o:AO),gE (upd h id o) h
 |[],_,_=>trivial
 |.mark::a,id,o=>gE.upd a id o
 |.ob i o'::a,id,o=>by
  simp only[Sim.upd]
  split
  exact⟨rfl,.refl a⟩
  exact⟨rfl,gE.upd a id o⟩
def gE.split:∀{x pre r:aA gN},gE x (pre++r)->∃p q,x=p++q/\gE p pre/\gE q r
 |x,[],r,h=>⟨[],x,rfl,trivial,h⟩
 |.mark::x,.mark::pre,r,h=>by
  obtain⟨p,q,rfl,h1,h2⟩:=gE.split (x:=x) (pre:=pre) (r:=r) h
  exact⟨.mark::p,q,rfl,h1,h2⟩
 |.ob i o::x,.ob j o'::pre,r,h=>by
  obtain⟨p,q,rfl,h1,h2⟩:=gE.split (x:=x) (pre:=pre) (r:=r) h.2
  exact⟨.ob i o::p,q,rfl,⟨h.1,h1⟩,h2⟩
 |[],.mark::_,_,h=>h.elim
 |[],.ob _ _::_,_,h=>h.elim
 |.mark::_,.ob _ _::_,_,h=>h.elim
 |.ob _ _::_,.mark::_,_,h=>h.elim
def gE.obs {n:Nat}:∀{p pre:aA gN},gE p pre->(∀e∈pre,∃i o,e=.ob i o/\n<=i)->∀e∈p,∃i o,e=.ob i o/\n<=i
 |[],[],_,_,e,he=>by simp at he
 |.mark::p,.mark::pre,h,hp,e,he=>by simp_all
 |.ob i o::p,.ob j o'::pre,h,hp,e,he=>by
  rcases aM3.1 he with rfl|he
  obtain⟨b,a,k,hk⟩:=hp (.ob j o') (by simp)
  cases k
  exact⟨i,o,rfl,by rw[h.1];exact hk⟩
  exact gE.obs h.2 (fun e he=>hp e (by simp[he])) e he
def Sk.refl (h:aA gN) (n:Nat):Sk h h n:=⟨[],h,rfl,.refl h,fun e he=>by simp at he⟩
def Sk.trans {a b c:aA gN} {n m:Nat} (h:Sk a b n) (k:Sk b c m) (hn:n<=m):Sk a c n:=by
 obtain⟨p,r,rfl,h1,h2⟩:=h;obtain⟨q,r',rfl,f,g⟩:=k;obtain⟨x,y,rfl,d,e2⟩:=f.split;refine⟨q++x,y,by simp,e2.trans h1,fun e he=>?_⟩;rcases cD3.1 he with he|he
 grind
 exact d.obs h2 e he
def Sk.upd (h:aA gN) (id:Nat) (o:AO) (n:Nat):Sk h (upd h id o) n:=⟨[],_,rfl,.upd h id o,fun e he=>by simp at he⟩
def Sk.new (h:aA gN) (o:AO) (n:Nat):Sk h (.ob n o::h) n:=⟨[.ob n o],h,rfl,.refl h,fun e he=>by simp at he;exact⟨n,o,he,aC3 _⟩⟩
def Eu {n:Nat}:∀{pre r:aA gN} {id:Nat},(∀e∈pre,∃i o,e=.ob i o/\n<=i)->id<n->Sim.look (pre++r) id=Sim.look r id
 |[],r,id,_,_=>rfl
 |e::pre,r,id,h,hid=>by
  obtain⟨i,o,rfl,hi⟩:=h e (by simp)
  simp only[cO3,Sim.look]
  rw[aG3 (by omega)]
  exact Eu (fun e he=>h e (by simp[he])) hid
def Vu {n:Nat}:∀{pre r:aA gN},(∀e∈pre,∃i o,e=.ob i o/\n<=i)->∃a,Sim.popMark (pre++.mark::r)=a++r/\∀e∈a,∃i o,e=.ob i o/\n<=i
 |[],r,_=>⟨[],rfl,fun e he=>by simp at he⟩
 |e::pre,r,h=>by
  obtain⟨i,o,rfl,hi⟩:=h e (by simp)
  obtain⟨a,h1,h2⟩:=Vu (r:=r) (fun e he=>h e (bJ3 _ he))
  have keep:∃b,gN.ob i o::Sim.popMark (pre++.mark::r)=b++r/\∀e∈b,∃i o,e=.ob i o/\n<=i:=
   ⟨.ob i o::a,by rw[h1];rfl,fun e he=>by
    rcases aM3.1 he with rfl|he
    exact⟨i,o,rfl,hi⟩
    exact h2 e he⟩
  simp only[cO3,Sim.popMark]
  split
  exact⟨a,h1,h2⟩
  exact keep
def Sk.pop {h h':aA gN} {n:Nat} (hs:Sk (.mark::h) h' n):Sk h (Sim.popMark h') n/\∀id,id<n->Sim.look (Sim.popMark h') id=Sim.look h' id:=by
 obtain⟨pre,r,rfl,h1,h2⟩:=hs
 match r,h1 with
 |.mark::r,h1=>
  obtain⟨a,c,b⟩:=Vu (r:=r) h2;rw[c];refine⟨⟨a,r,rfl,h1,b⟩,fun id hid=>?_⟩;rw[Eu b hid,Eu h2 hid];rfl
end Go.P
namespace Go.P
open Go.Sim (AV AO Hp gN upd St IC IX Ex gC CK Wf)
section
variable {R:Type}
def It (x:Value) (K:Value->aB R):Sq x K=K x:=by cases x<;>rfl
def dW1 (x:PV) (K:PV->aB R):fPV x K=K x:=by
 cases x<;>simp[fPV,It]
def uE:∀(xs:aA PV) (K:aA PV->aB R),xF xs K=K xs
 |[],K=>rfl
 |x::xs,K=>by simp[xF,dW1,uE xs]
def tG1:∀(xs:aA PV) (K:aA PV->aB R),fV.fT xs K=K xs
 |[],K=>rfl
 |x::xs,K=>by
  have ih:=fun K=>tG1 xs (K:aA PV->aB R)
  cases x<;>simp[fV.fT,dW1,uE,ih]
def Oy (x:PV) (K:PV->aB R):fV x K=K x:=by
 cases x<;>simp[fV,It,uE,tG1]
def bR {a b:Nat}:Nat.beq a b=decide (a=b):=by
 rw[Bool.eq_iff_iff];simp[Nat.beq_eq]
def jU:∀(e:fG) (i:Nat) (K:PV->aB R),uW e i K=(fC e i).bind K
 |[],_,_=>rfl
 |(j,v)::r,i,K=>by
  simp only[uW,fC,bR]
  by_cases h:j=i<;>simp[h,jU r i K]
def iD:∀(i:Nat) (js:aA Nat),wL i js=js.contains i
 |_,[]=>rfl
 |i,j::js=>by
  simp only[wL,bR,List.contains_cons,iD i js]
  by_cases h:i=j<;>simp[h]
def edel:fG->aA Nat->fG
 |[],_=>[]
 |(j,v)::r,is=>if j∈is then edel r is else(j,v)::edel r is
def fY:∀(e:fG) (is:aA Nat) (K:fG->aB R),kC e is K=K (edel e is)
 |[],_,_=>rfl
 |(j,v)::r,is,K=>by
  simp only[kC,iD,edel]
  by_cases h:j∈is
  simp[h,fY r is K]
  simp[h,fY r is]
def zM:∀(e:fG) (is:aA Nat) (i:Nat),fC (edel e is) i=if i∈is then none else fC e i
 |[],is,i=>by simp[edel,fC]
 |(j,v)::r,is,i=>by
  have ih:=zM r is i
  simp only[edel]
  by_cases h:j∈is
  rw[aE3 h,ih]
  by_cases h2:j=i
  subst h2;simp[h]
  simp[fC,h2]
  rw[aG3 h]
  by_cases h2:j=i
  subst h2;simp[fC,h]
  simp only[fC,aG3 h2,ih]
def evs (e:fG):aA PX->aB (aA PV)
 |[]=>some []
 |.t i::xs=>(fC e i).bind fun v=>(evs e xs).bind fun vs=>some (v::vs)
 |.c x::xs=>(evs e xs).bind fun vs=>some (x::vs)
def jV (e:fG):∀(xs:aA PX) (K:aA PV->aB R),rJ e xs K=(evs e xs).bind K
 |[],K=>rfl
 |.t i::xs,K=>by
  simp only[rJ,jU,evs,eB3]
  congr 1
  funext v
  rw[jV e xs]
  simp[eB3]
 |.c x::xs,K=>by
  simp only[rJ,evs,eB3]
  rw[jV e xs]
  simp[eB3]
def rL:∀(n:Nat) (l:aA PV) (K:aA PV->aB R) (r:R),tD n l K=some r->n<=l.length/\K (l.take n)=some r
 |0,l,K,r,h=>⟨bL3 _,by simpa[tD]using h⟩
 |n+1,[],K,r,h=>by simp[tD]at h
 |n+1,a::as,K,r,h=>by
  simp only[tD]at h
  obtain⟨h1,h2⟩:=rL n as _ r h
  exact⟨by simp;omega,by simpa using h2⟩
def fP:∀(n:Nat) (l:aA PV) (K:aA PV->aB R) (r:R),jT n l K=some r->n<=l.length/\K (l.drop n)=some r
 |0,l,K,r,h=>⟨bL3 _,by simpa[jT]using h⟩
 |n+1,[],K,r,h=>by simp[jT]at h
 |n+1,a::as,K,r,h=>by
  simp only[jT]at h
  obtain⟨h1,h2⟩:=fP n as _ r h
  exact⟨by simp;omega,by simpa using h2⟩
def qI {α:Type} (a:α):∀(cs as:aA α) (n:Nat),Sim.setL (a::as) (n+1) cs=a::Sim.setL as n cs
 |[],as,n=>rfl
 |c::cs,as,n=>by simp only[Sim.setL,List.set_cons_succ];exact qI a cs _ _
def lK:∀(l:aA PV) (o:Nat) (cs:aA PV) (K:aA PV->aB R) (r:R),vW l o cs K=some r->o+cs.length<=l.length/\K (Sim.setL l o cs)=some r
 |l,0,[],K,r,h=>⟨by simp,by simpa[vW,Sim.setL]using h⟩
 |[],0,c::cs,K,r,h=>by simp[vW]at h
 |[],n+1,cs,K,r,h=>by simp[vW]at h
 |a::as,0,c::cs,K,r,h=>by
  simp only[vW]at h
  obtain⟨h1,h2⟩:=lK as 0 cs _ r h
  refine⟨by simp;omega,?_⟩
  simp only[Sim.setL,List.set_cons_zero]
  rw[qI]
  exact h2
 |a::as,n+1,cs,K,r,h=>by
  simp only[vW]at h
  obtain⟨h1,h2⟩:=lK as n cs _ r h
  exact⟨by simp;omega,by rw[qI];exact h2⟩
def gV:∀(h:aY) (k:Nat) (K:dN->aB R),hK h k K=(aJ h k).bind K
 |[],_,_=>rfl
 |(j,v)::r,i,K=>by
  simp only[hK,aJ,bR]
  by_cases h:j=i<;>simp[h,gV r i K]
def dC:aY->Nat->dN->aY
 |[],_,_=>[]
 |(j,v)::r,i,o=>if j=i then(j,o)::r else(j,v)::dC r i o
def eF:∀(h:aY) (k:Nat) (o:dN) (K:aY->aB R) (r:R),hZ h k o K=some r->K (dC h k o)=some r
 |[],_,_,_,_,h=>by simp[hZ]at h
 |(j,v)::t,i,o,K,r,h=>by
  simp only[hZ,bR]at h
  by_cases e:j=i
  simp only[e,cA3,aL3]at h
  simp only[dC,e,aZ3];exact h
  simp only[e,cU3,aV3]at h
  simp only[dC,aG3 e]
  exact eF t i o _ r h
def eE:∀(h:aY) (k:Nat) (o:dN) (j:Nat),aJ (dC h k o) j=if j=k/\(aJ h k).isSome then some o else aJ h j
 |[],k,o,j=>by simp[dC,aJ]
 |(i,v)::r,k,o,j=>by
  have ih:=eE r k o j
  by_cases h1:i=k
  subst h1
  simp only[dC,aZ3,aJ]
  by_cases h2:i=j
  subst h2;simp
  grind
  simp only[dC,aG3 h1,aJ]
  by_cases h2:i=j
  subst h2;simp[h1]
  grind
def gO:PV->aB (aA PV)
 |.agg cs=>some cs
 |.tup _=>none
 |.undef=>none
 |x=>some [x]
def lL (x:PV) (K:aA PV->aB R):mK x K=(gO x).bind K:=by cases x<;>rfl
def oT {C:Cx} {x:PV} {y:AV} {cs:aA PV} (h:RV C x y) (hc:gO x=some cs):∃cs',y.cells=some cs'/\LR (RV C) cs cs':=by
 have one:∀{z:PV} {w:AV},RV C z w->(∀l,w≠.agg l)->(∀l,w≠.tup l)->cs=[z]->∃cs',w.cells=some cs'/\LR (RV C) cs cs':=by
  intro z w f h1 h2 e;subst e;refine⟨[w],?_,.cons f .nil⟩;cases w<;>simp_all[AV.cells]
 cases h with
 |cl h=>
  cases h with
  |agg hl hc'=>simp[gO]at hc;subst hc;exact⟨_,rfl,hl,fun j x y a b=>.cl (hc' j x y a b)⟩
  |tup hl hc'=>simp[gO]at hc
  |v x=>exact one (.cl (.v x)) (by intro l e;cases e) (by intro l e;cases e) (by simpa[gO]using hc.symm)
  |is a b c=>exact one (.cl (.is a b c)) (by intro l e;cases e) (by intro l e;cases e) (by simpa[gO]using hc.symm)
  |isn=>exact one (.cl .isn) (by intro l e;cases e) (by intro l e;cases e) (by simpa[gO]using hc.symm)
  |ip a b=>exact one (.cl (.ip a b)) (by intro l e;cases e) (by intro l e;cases e) (by simpa[gO]using hc.symm)
  |im a b c=>exact one (.cl (.im a b c)) (by intro l e;cases e) (by intro l e;cases e) (by simpa[gO]using hc.symm)
  |fn a b c d=>exact one (.cl (.fn a b c d)) (by intro l e;cases e) (by intro l e;cases e) (by simpa[gO]using hc.symm)
 |undef=>simp[gO]at hc
 |agg hl hc'=>simp[gO]at hc;subst hc;exact⟨_,rfl,hl,hc'⟩
 |tup hl hc'=>simp[gO]at hc
 |ref h=>exact one (.ref h) (by intro l e;cases e) (by intro l e;cases e) (by simpa[gO]using hc.symm)
 |own h=>exact one (.own h) (by intro l e;cases e) (by intro l e;cases e) (by simpa[gO]using hc.symm)
 |ownn h hy=>subst hy;exact one (.ownn h rfl) (by intro l e;cases e) (by intro l e;cases e) (by simpa[gO]using hc.symm)
 |el h=>exact one (.el h) (by intro l e;cases e) (by intro l e;cases e) (by simpa[gO]using hc.symm)
 |map h=>exact one (.map h) (by intro l e;cases e) (by intro l e;cases e) (by simpa[gO]using hc.symm)
 |yld h=>exact one (.yld h) (by intro l e;cases e) (by intro l e;cases e) (by simpa[gO]using hc.symm)
 |fn a b c d=>exact one (.fn a b c d) (by intro l e;cases e) (by intro l e;cases e) (by simpa[gO]using hc.symm)
 |@zs d e rows y h=>
  refine one (.zs h) ?_ ?_ (by simpa[gO]using hc.symm);intro l e;subst e;cases d with
  |zero=>cases h
  |succ d=>rcases h with h|⟨_,_,_,_,_,_,_,h,_⟩<;>cases h
  intro l e;subst e;cases d with
  |zero=>cases h
  |succ d=>rcases h with h|⟨_,_,_,_,_,_,_,h,_⟩<;>cases h
 |zm h he=>exact one (.zm h he) (by intro l e;cases e) (by intro l e;cases e) (by simpa[gO]using hc.symm)
 |zm0=>exact one .zm0 (by intro l e;cases e) (by intro l e;cases e) (by simpa[gO]using hc.symm)
def Kw (a b:IntKind):kEq a b=decide (a=b):=by cases a<;>cases b<;>rfl
def LR.zero {C:Cx} (zero:aA Value):LR (RV C) (zero.map .v) (Sim.zeroRow zero):=by
 unfold Sim.zeroRow
 induction zero with
 |nil=>exact .nil
 |cons a as ih=>exact .cons (.cl (.v a)) ih
def SL.zero {n m:Nat} (zero:aA Value):SL n (List.replicate m (Sim.zeroRow zero)):=fun i row _ hr c hc=>by
 rw[dN3]at hr
 split at hr
 cases hr
 unfold Sim.zeroRow at hc
 obtain⟨x,_,rfl⟩:=dB3.1 hc
 rfl
 cases hr
def LR.zeroP (zero:aA Value):LR (RC true) (zero.map .v) (Sim.zeroRow zero):=by
 unfold Sim.zeroRow
 induction zero with
 |nil=>exact .nil
 |cons a as ih=>exact .cons (.v a) ih
def RV.plain {C:Cx} {x:PV} {y:AV} (h:RV C x y) (hp:gZ x=true):RC true x y:=by
 cases h with
 |cl h=>exact h.plain hp
 |_=>simp[gZ]at hp
def LR.plain {C:Cx} {xs:aA PV} {ys:aA AV} (h:LR (RV C) xs ys) (hp:xs.all gZ=true):LR (RC true) xs ys:=
 ⟨h.1,fun j x y a b=>(h.2 j x y a b).plain (aD3.1 hp x (aJ3 a))⟩
def xQ (e:Nat):∀(xs:aA PV) (K:aA (aA PV)->aB R) (r:R),xK e xs K=some r->∃rows,K rows=some r/\rows.length=xs.length/\
  ∀(i:Nat) (x:PV),xs[i]? =some x->∃cs,gO x=some cs/\cs.length=e/\cs.all gZ=true/\rows[i]? =some cs
 |[],K,r,h=>⟨[],h,rfl,fun i x d=>by simp at d⟩
 |x::xs,K,r,h=>by
  simp only[xK,lL,zY2]at h
  obtain⟨cs,a,h⟩:=h
  by_cases hc:(Nat.beq cs.length e&&cs.all gZ)=true
  rw[hc,aL3]at h
  simp only[aA3,bR,aH3]at hc
  obtain⟨rows,h1,h2,b⟩:=xQ e xs _ r h
  refine⟨cs::rows,h1,by simp[h2],fun i y hy=>?_⟩
  cases i with
  |zero=>simp at hy;subst hy;exact⟨cs,a,hc.1,hc.2,rfl⟩
  |succ i=>simp at hy;obtain⟨c,f,g,j,k⟩:=b i y hy;exact⟨c,f,g,j,by simpa using k⟩
  grind
def zN:∀(i:Nat) (js:aA Nat),Kr i js=true->js=List.range' i js.length
 |_,[],_=>rfl
 |i,j::js,h=>by
  simp only[Kr,bR]at h
  by_cases e:i=j
  simp only[e,cA3,aL3]at h
  subst e
  rw[bG3,List.range'_succ]
  congr 1
  exact zN _ js h
  simp[e]at h
end
end Go.P
namespace Go.P
open Go.Sim (AV AO Hp gN upd St IC IX Ex gC CK Wf Out doOp)
structure dK (C:Cx) (n:Nat) (h:aY) (lim:Nat) (s:Hp):Prop where
 hr:HR C h (Sim.look s.h) lim s.n
 dom:∀k pl,C k=some pl->k<n
 wf:Wf s.h s.n
 lim:lim<=s.n
def gH:dN->Bool
 |.lst ty _ _ _=>gT ty
 |.lz .. =>false
 |.tr .. =>false
 |_=>true
structure Fr (C:Cx) (h:aY) (s:Hp) (C':Cx) (h':aY) (s':Hp):Prop where
 sk:Sk s.h s'.h s.n
 n:s.n<=s'.n
 keep:∀id,id<s.n->¬Own C h id->Sim.look s'.h id=Sim.look s.h id
 own:∀id,id<s.n->Own C' h' id->Own C h id
 kd:∀k o,aJ h k=some o->∃o',aJ h' k=some o'/\(gH o'=true->gH o=true/\C' k=C k)
 zl:∀id o,C.z id=some o->C'.z id=some o
 zn:∀id,id<s.n->C'.z id≠none->C.z id≠none\/Own C h id
def Fr.refl (C:Cx) (h:aY) (s:Hp):Fr C h s C h s:=⟨.refl _ _,aC3 _,fun _ _ _=>rfl,fun _ _ h=>h,fun k o h=>⟨o,h,fun hb=>⟨hb,rfl⟩⟩,fun _ _ h=>h,fun _ _ h=>.inl h⟩
def Fr.trans {C C' C'':Cx} {h h' c:aY} {s s' d:Hp} (a:Fr C h s C' h' s') (b:Fr C' h' s' C'' c d):Fr C h s C'' c d:=
  ⟨a.sk.trans b.sk a.n,bB3 a.n b.n,fun id hid hn=>by
    rw[b.keep id (bK3 hid a.n) (fun f=>hn (a.own id hid f)),a.keep id hid hn],
   fun id hid f=>a.own id hid (b.own id (bK3 hid a.n) f),
   fun k o hk=>by
    obtain⟨o',h1,h2⟩:=a.kd k o hk
    obtain⟨g,i,e⟩:=b.kd k o' h1
    exact⟨g,i,fun hb=>⟨(h2 (e hb).1).1,(e hb).2.trans (h2 (e hb).1).2⟩⟩,
   fun id o h=>b.zl id o (a.zl id o h),
   fun id hid h=>by
    rcases b.zn id (bK3 hid a.n) h with h1|h1
    exact a.zn id hid h1
    exact .inr (a.own id hid h1)⟩
def gR {R:Type} (C:Cx) (n:Nat) (h:aY) (lim:Nat) (s:Hp) (k:gC) (ys:aA AV) (K:PV->aY->Nat->aB R) (r:R):Prop:=
 ∃v h' n' C' out,K v h' n'=some r/\doOp (Sim.look s.h) lim s.n k ys=some out/\RV C' v out.v/\dK C' n' h' lim (out.apply s)/\
  C.le C'/\n<=n'/\Fr C h s C' h' (out.apply s)/\(Ow k=false->∀id,id<s.n->Sim.look (out.apply s).h id=Sim.look s.h id)
section
variable {R:Type} {C:Cx} {n:Nat} {h:aY} {lim:Nat} {s:Hp} {k:gC} {ys:List AV} {K:PV->aY->Nat->Option R} {r:R}
def bW (a:dK C n h lim s) {v:PV} {y:AV} (hd:doOp (Sim.look s.h) lim s.n k ys=some {v:=y}) (hv:RV C v y) (hK:K v h n=some r):gR C n h lim s k ys K r:=
 ⟨v,h,n,C,_,hK,hd,hv,a,.refl C,aC3 _,.refl _ _ _,fun _ _ _=>rfl⟩
def fM {h:aA gN} {n:Nat} {o:AO} {id:Nat}:Sim.look (.ob n o::h) id=if n=id then some o else Sim.look h id:=rfl
def ext (C:Cx) (n:Nat) (pl:Pl):Cx:=⟨fun k=>if k=n then some pl else C k,C.z,C.w⟩
def mM (a:dK C n h lim s) (pl:Pl):C.le (ext C n pl):=⟨fun k q hk=>by
 have:=a.dom k q hk
 simp only[ext]
 rw[aG3 (by omega)]
 exact hk,fun _ _ h=>h⟩
def fO.mono {L L':Nat->aB AO} {w w':Nat->aB (Nat×Nat×Nat)} {nS c:Nat} (hn:nS<=c) {B:Nat->Prop} (f:∀b,B b->w b=none) (g:∀o sl,w o=some sl->¬B sl.1->w' o=some sl/\L' o=L o):
  ∀{d:Nat} {sl:Nat×Nat×Nat} {t:TD} {x:PV} {y:AV},¬B sl.1->fO L w lim nS d sl t x y->fO L' w' lim c d sl t x y
 |0,_,_,_,_,_,h=>h.elim
 |d+1,sl,.nd ty e ks,x,y,hb,h=>by
  obtain⟨rows,h1,h2⟩:=h
  refine⟨rows,h1,?_⟩
  rcases h2 with h2|⟨id,ver,els,k1,k2,k3,k4,kf,k5,k6,k7⟩
  exact .inl h2
  obtain⟨w1,w2⟩:=g id sl k2 hb
  have hid:¬B id:=fun hc=>by rw[f id hc]at k2;cases k2
  refine .inr ⟨id,ver,els,k1,w1,k3,by omega,kf,w2.trans k5,k6,fun i r r' a b=>⟨(k7 i r r' a b).1,fun j x1 k a1 b1=>?_⟩⟩
  have:=(k7 i r r' a b).2 j x1 k a1 b1
  cases hk:gK ks j with
  |none=>rw[hk]at this;exact this
  |some t=>rw[hk]at this;exact fO.mono hn f g hid this
def fO.up1 {L:Nat->aB AO} {w:Nat->aB (Nat×Nat×Nat)} {lim nS:Nat}:∀{d:Nat} {sl:Nat×Nat×Nat} {t:TD} {x:PV} {y:AV},fO L w lim nS d sl t x y->fO L w lim nS (d+1) sl t x y
 |0,_,_,_,_,h=>h.elim
 |d+1,sl,.nd ty e ks,x,y,h=>by
  obtain⟨rows,h1,h2⟩:=h
  refine⟨rows,h1,?_⟩
  rcases h2 with h2|⟨id,ver,els,k1,k2,k3,k4,kf,k5,k6,k7⟩
  exact .inl h2
  refine .inr ⟨id,ver,els,k1,k2,k3,k4,kf,k5,k6,fun i r r' a b=>⟨(k7 i r r' a b).1,fun j x1 c a1 b1=>?_⟩⟩
  have:=(k7 i r r' a b).2 j x1 c a1 b1
  cases hk:gK ks j with
  |none=>rw[hk]at this;exact this
  |some t=>rw[hk]at this;exact fO.up1 this
def fO.up {L:Nat->aB AO} {w:Nat->aB (Nat×Nat×Nat)} {lim nS d a:Nat} (hd:d<=a) {sl:Nat×Nat×Nat} {t:TD} {x:PV} {y:AV} (h:fO L w lim nS d sl t x y):fO L w lim nS a sl t x y:=by
 induction hd with
 |refl=>exact h
 |step _ ih=>exact ih.up1
def TC.mono {C':Cx} {L L':Nat->aB AO} {nS c d id i j:Nat} {ks:aA (Nat×TD)} {hs:aA (Nat×Nat×PV)} {a:PV} {b:AV} (hn:nS<=c) (f:C.le C') {B:Nat->Prop} (e:∀b,B b->C.w b=none) (g:∀o sl,C.w o=some sl->¬B sl.1->C'.w o=some sl/\L' o=L o) (hb:¬B id) (h:TC C L lim nS d id ks hs i j a b):TC C' L' lim c d id ks hs i j a b:=by
 unfold TC at h ⊢;cases hk:gK ks j with
 |none=>rw[hk]at h;exact h
 |some t=>
  rw[hk]at h;simp only at h ⊢;rcases h with⟨h1,h2⟩|⟨h1,h2⟩
  exact .inl ⟨h1,fun x k=>RV.mono f (h2 x k)⟩;exact .inr ⟨h1,fO.mono hn e g hb h2⟩
def TC.none {C:Cx} {L:Nat->aB AO} {nS d id i j:Nat} {ks:aA (Nat×TD)} {hs:aA (Nat×Nat×PV)} {a:PV} {b:AV} (hk:gK ks j=none):TC C L lim nS d id ks hs i j a b↔RC true a b:=by
 unfold TC;rw[hk]
def fX.monoB {C':Cx} {L L':Nat->aB AO} {nS q:Nat} {po:dN} {pl:Pl} (hn:nS<=q) (p:C.le C') {B:Nat->Prop} (u:∀b,B b->C.w b=none) (z:∀o sl,C.w o=some sl->¬B sl.1->C'.w o=some sl/\L' o=L o) (hb:∀id ver e len,pl=.atp id ver e len->¬B id) (n:∀id ver e len,pl=.atp id ver e len->L' id=L id) (c:fX C L lim nS po pl):fX C' L' lim q po pl:=by
 cases po with
 |box cells=>
  cases pl with
  |nil=>exact c
  |atp id ver e len=>
   obtain⟨h1,h2,ty,esz,row,h,k⟩:=c;exact⟨h1,by omega,ty,esz,row,by rw[n id ver e len rfl];exact h,k.mono (fun x y hv=>hv.mono p)⟩
 |lst ty e g rows=>
  cases pl with
  |nil=>exact c
  |atp id ver e' len=>
   obtain⟨h1,h2,h,k,els,l,m⟩:=c;exact⟨h1,by omega,h,k,els,by rw[n id ver e' len rfl];exact l,m⟩
 |lz ty e dp rows=>
  cases pl with
  |nil=>exact c
  |atp id ver e' len=>
   obtain⟨h1,h2,h,k,hf,els,l,m⟩:=c;exact⟨h1,by omega,h,k,hf,els,by rw[n id ver e' len rfl];exact l,m.mono p.2⟩
 |mp es=>
  cases pl with
  |nil=>exact c
  |atp id ver e len=>
   obtain⟨h1,h2,es',h,k⟩:=c;exact⟨h1,by omega,es',by rw[n id ver e len rfl];exact h,k⟩
 |fl fs=>
  cases pl with
  |nil=>exact c
  |atp id ver e len=>
   obtain⟨h1,h2,h,k,ty,els,l,m,s⟩:=c;exact⟨h1,by omega,h,k,ty,els,by rw[n id ver e len rfl];exact l,m,fun i f row a b=>(s i f row a b).mono (fun x y hv=>hv.mono p)⟩
 |loop N e ps a b busy fin=>
  cases pl with
  |nil=>exact c
  |atp id ver e' len=>
   obtain⟨h1,h2,st,pend,tmps,h,k,l,m⟩:=c;exact⟨h1,by omega,st,pend,tmps,by rw[n id ver e' len rfl];exact h,k,fun i v hv=>(l i v hv).imp fun y hy=>⟨hy.1,hy.2.mono p⟩,m⟩
 |tr t rows hs=>
  cases t with
  |nd ty e ks=>
  cases pl with
  |nil=>exact c
  |atp id ver e' len=>
   obtain⟨h1,h2,h,k,hf,els,d,l,m,s⟩:=c;exact⟨h1,by omega,h,k,hf,els,d,by rw[n id ver e' len rfl];exact l,m,fun i r r' a b=>⟨(s i r r' a b).1,fun j x1 A a1 b1=>((s i r r' a b).2 j x1 A a1 b1).mono hn p u z (hb id ver e' len rfl)⟩⟩
def fX.mono {C':Cx} {L L':Nat->aB AO} {nS a:Nat} {po:dN} {pl:Pl} (hn:nS<=a) (b:C.le C') (c:∀id ver e len,pl=.atp id ver e len->L' id=L id) (d:∀o sl,C.w o=some sl->C'.w o=some sl/\L' o=L o) (f:fX C L lim nS po pl):fX C' L' lim a po pl:=
 f.monoB hn b (B:=fun _=>False) (fun _ h=>h.elim) (fun o sl h _=>d o sl h) (fun _ _ _ _ _ h=>h) c
def fX.lt {L:Nat->aB AO} {nS id ver e len:Nat} {po:dN} (c:fX C L lim nS po (.atp id ver e len)):lim<=id/\id<nS:=by
 cases po with
 |box cells=>exact⟨c.1,c.2.1⟩
 |lst ty e g rows=>exact⟨c.1,c.2.1⟩
 |lz ty e dp rows=>exact⟨c.1,c.2.1⟩
 |mp es=>exact⟨c.1,c.2.1⟩
 |fl fs=>exact⟨c.1,c.2.1⟩
 |loop N e ps a b busy fin=>exact⟨c.1,c.2.1⟩
 |tr t rows hs=>cases t with|nd ty e ks=>exact⟨c.1,c.2.1⟩
def HR.lt {L:Nat->aB AO} {nS:Nat} (H:HR C h L lim nS) {k id ver e len:Nat} (hk:aJ h k≠none) (a:C k=some (.atp id ver e len)):lim<=id/\id<nS:=by
 cases ho:aJ h k with
 |none=>exact absurd ho hk
 |some po=>
  obtain⟨pl,h1,h2⟩:=H.ob k po ho;rw[a]at h1;cases h1;exact h2.lt
def dX1 (a:dK C n h lim s) {k:Nat} (hk:n<=k):C k=none:=by
 cases hc:C k with
 |none=>rfl
 |some pl=>have:=a.dom k pl hc;omega
def uF (a:dK C n h lim s) {k:Nat} (hk:n<=k):aJ h k=none:=by
 cases hc:aJ h k with
 |none=>rfl
 |some po=>
  obtain⟨pl,h1,_⟩:=a.hr.ob k po hc;have:=a.dom k pl h1;omega
def tH1 (b:dK C n h lim s) {po:dN} {pl:Pl}:∀k o,aJ h k=some o->∃o',aJ ((n,po)::h) k=some o'/\(gH o'=true->gH o=true/\ext C n pl k=C k):=fun k o hk=>by
 have a:n≠k:=fun e=>by rw[uF b (by omega)]at hk;cases hk
 exact⟨o,by simp[aJ,a,hk],fun hb=>⟨hb,by simp[ext,Ne.symm a]⟩⟩
def rM (d:dK C n h lim s) {po:dN} {ao:AO} {ver e len:Nat} (z:fX (ext C n (.atp s.n ver e len)) (Sim.look (.ob s.n ao::s.h)) lim (s.n+1) po (.atp s.n ver e len)):
  dK (ext C n (.atp s.n ver e len)) (n+1) ((n,po)::h) lim {h:=.ob s.n ao::s.h,n:=s.n+1}/\Fr C h s (ext C n (.atp s.n ver e len)) ((n,po)::h) {h:=.ob s.n ao::s.h,n:=s.n+1}/\
  ∀id,id<s.n->Sim.look (.ob s.n ao::s.h) id=Sim.look s.h id:=by
 have p:=mM d (.atp s.n ver e len)
 have c:∀id,id<s.n->Sim.look (.ob s.n ao::s.h) id=Sim.look s.h id:=fun id hid=>by
  rw[fM,aG3 (by omega)]
 have g:∀k,aJ ((n,po)::h) k≠none->k≠n->aJ h k≠none:=fun k hk j=>by
  simpa[aJ,Ne.symm j]using hk
 have f:∀k q,k≠n->ext C n (.atp s.n ver e len) k=some q->C k=some q:=fun k q j hk=>by
  simpa[ext,j]using hk
 refine⟨⟨⟨fun k o hk=>?_,fun k k' id v1 i t v2 e2 B h1 h2 u x=>?_,fun id o A=>?_,fun k id v1 i t h1 h2=>?_,fun id sl hw=>⟨Nat.lt_succ_of_lt (d.hr.wb id sl hw).1,Nat.lt_succ_of_lt (d.hr.wb id sl hw).2⟩,d.hr.wz⟩,fun k pl hk=>?_,⟨by simp,d.wf⟩,by have:=d.lim;show lim<=s.n+1;omega⟩,⟨.new _ _ _,by simp,fun id hid _=>c id hid,fun id hid m=>?_,tH1 d,fun _ _ h=>h,fun _ _ h=>.inl h⟩,c⟩;simp only[aJ]at hk;split at hk;rename_i i;subst i;cases hk;exact⟨_,by simp[ext],z⟩;obtain⟨pl,y,r⟩:=d.hr.ob k o hk;refine⟨pl,p.1 _ _ y,r.mono (by simp) p (fun id ver e len hp=>?_) (fun o sl hw=>⟨hw,c o (d.hr.wb o sl hw).1⟩)⟩;subst hp;exact c id r.lt.2;by_cases a:k=n;by_cases b:k'=n;rw[a,b];exfalso;subst a;simp[ext]at u;have:=(d.hr.lt (g k' h2 b) (f k' _ b x)).2;omega;by_cases b:k'=n;exfalso;subst b;simp[ext]at x;have:=(d.hr.lt (g k h1 a) (f k _ a u)).2;omega;exact d.hr.inj k k' id v1 i t v2 e2 B (g k h1 a) (g k' h2 b) (f k _ a u) (f k' _ b x);obtain⟨z1,z2,z3,z4⟩:=d.hr.zr id o A;refine⟨(c id z2).trans z1,Nat.lt_succ_of_lt z2,fun k v e' l h1 h2=>?_,z4⟩;by_cases a:k=n;subst a;simp[ext]at h2;omega
 grind
 by_cases a:k=n;subst a;simp[ext]at h2;show C.w id=none
 cases hw:C.w id with
 |none=>rfl
 |some sl=>have:=(d.hr.wb id sl hw).1;omega
 exact d.hr.wn k id v1 i t (g k h1 a) (f k _ a h2);by_cases a:k=n;omega;have:=d.dom k pl (f k pl a hk);omega;rcases m with⟨k,v1,i,t,y,r⟩|m;by_cases a:k=n;subst a;simp[ext]at r;omega;exact .inl ⟨k,v1,i,t,g k y a,f k _ a r⟩;exact .inr m
def Ze (C:Cx) (L:Nat->aB AO) (lim nS ty e:Nat) (g:Bool):fX C L lim nS (qG ty e g) .nil:=by
 unfold qG;cases Nat.ble 4294967296 e<;>rfl
def Sw (d:dK C n h lim s) {ty e:Nat} {g:Bool}:dK (ext C n .nil) (n+1) ((n,qG ty e g)::h) lim s/\Fr C h s (ext C n .nil) ((n,qG ty e g)::h) s:=by
 have p:=mM d .nil
 have f:∀k,aJ ((n,qG ty e g)::h) k≠none->k≠n->aJ h k≠none:=fun k hk j=>by
  simpa[aJ,Ne.symm j]using hk
 have c:∀k q,k≠n->ext C n .nil k=some q->C k=some q:=fun k q j hk=>by
  simpa[ext,j]using hk
 refine⟨⟨⟨fun k o hk=>?_,fun k k' id v1 i r v2 e2 z h1 h2 w x=>?_,fun id o y=>?_,fun k id v1 i r h1 h2=>?_,d.hr.wb,d.hr.wz⟩,fun k pl hk=>?_,d.wf,d.lim⟩,⟨.refl _ _,aC3 _,fun id hid _=>rfl,fun id hid m=>?_,tH1 d,fun _ _ h=>h,fun _ _ h=>.inl h⟩⟩;simp only[aJ]at hk;split at hk;rename_i i;subst i;cases hk;exact⟨.nil,by simp[ext],Ze ..⟩;obtain⟨pl,u,t⟩:=d.hr.ob k o hk;exact⟨pl,p.1 _ _ u,t.mono (aC3 _) p (fun _ _ _ _ _=>rfl) (fun _ _ hw=>⟨hw,rfl⟩)⟩;by_cases a:k=n;subst a;simp[ext]at w;by_cases b:k'=n;subst b;simp[ext]at x;exact d.hr.inj k k' id v1 i r v2 e2 z (f k h1 a) (f k' h2 b) (c k _ a w) (c k' _ b x);obtain⟨z1,z2,z3,z4⟩:=d.hr.zr id o y;refine⟨z1,z2,fun k v e' l h1 h2=>?_,z4⟩;by_cases a:k=n;subst a;simp[ext]at h2
 grind
 by_cases a:k=n;subst a;simp[ext]at h2;exact d.hr.wn k id v1 i r (f k h1 a) (c k _ a h2);by_cases a:k=n;omega;have:=d.dom k pl (c k pl a hk);omega;rcases m with⟨k,v1,i,r,u,t⟩|m;by_cases a:k=n;subst a;simp[ext]at t;exact .inl ⟨k,v1,i,r,f k u a,c k _ a t⟩;exact .inr m
def wA (c:dK C n h lim s) {k id ver e len:Nat} {po po':dN} {ao:AO} (hk:aJ h k=some po) (p:C k=some (.atp id ver e len))
  (A:fX C (Sim.look (upd s.h id ao)) lim s.n po' (.atp id ver e len)) (hb:gH po'=gH po):
  dK C n (dC h k po') lim {h:=upd s.h id ao,n:=s.n}/\Fr C h s C (dC h k po') {h:=upd s.h id ao,n:=s.n}:=by
 have g:∀j,aJ (dC h k po') j=if j=k then some po' else aJ h j:=fun j=>by
  rw[eE];simp[hk]
 have d:∀j,aJ (dC h k po') j≠none->aJ h j≠none:=fun j f=>by grind
 have a:∀j,j≠id->Sim.look (upd s.h id ao) j=Sim.look s.h j:=fun j f=>by
  rw[Sim.look_upd];simp[f]
 refine⟨⟨⟨fun j o f=>?_,fun j u i v1 b m v2 e2 z h1 h2 w x=>c.hr.inj j u i v1 b m v2 e2 z (d j h1) (d u h2) w x,fun i o y=>?_,fun j i v1 b m h1 h2=>c.hr.wn j i v1 b m (d j h1) h2,c.hr.wb,c.hr.wz⟩,c.dom,c.wf.upd _ _,c.lim⟩,⟨.upd _ _ _ _,aC3 _,fun i hi hn=>a i (fun b=>hn ?_),fun i hi hn=>?_,fun j o f=>?_,fun _ _ h=>h,fun _ _ h=>.inl h⟩⟩;rw[g]at f;split at f
 grind
 rename_i r;obtain⟨pl,q,t⟩:=c.hr.ob j o f;refine⟨pl,q,t.mono (aC3 _) (.refl C) (fun i v1 b m hp=>a i (fun e2=>r ?_)) (fun o sl hw=>⟨hw,a o fun e2=>by rw[e2,c.hr.wn k id ver e len (by rw[hk];simp) p]at hw;cases hw⟩)⟩;subst hp;subst e2;exact c.hr.inj j k i v1 b m ver e len (by rw[f];simp) (by rw[hk];simp) q p;obtain⟨z1,z2,z3,z4⟩:=c.hr.zr i o y;refine⟨(a i (fun b=>?_)).trans z1,z2,fun j v e' l h1 h2=>z3 j v e' l (d j h1) h2,z4⟩;subst b;exact z3 k ver e len (by rw[hk];simp) p;subst b;exact .inl ⟨k,ver,e,len,by rw[hk];simp,p⟩;rcases hn with⟨j,v1,b,m,q,t⟩|hn;exact .inl ⟨j,v1,b,m,d j q,t⟩;exact .inr hn
 grind
end
end Go.P
namespace Go.P
open Go.Sim (AV AO Hp gN upd St IC IX Ex gC CK Wf Out doOp)
section
variable {C:Cx} {y:AV}
def iE {x:Value} (h:RV C (.v x) y):y=.v x:=by cases h with|cl h=>cases h;rfl
def pY {cs:aA PV} (h:RV C (.agg cs) y):∃cs',y=.agg cs'/\LR (RV C) cs cs':=by
 cases h with
 |cl h=>cases h with|agg a b=>exact⟨_,rfl,a,fun j x y p q=>.cl (b j x y p q)⟩
 |agg a b=>exact⟨_,rfl,a,b⟩
def Ev {cs:aA PV} (h:RV C (.tup cs) y):∃cs',y=.tup cs'/\LR (RV C) cs cs':=by
 cases h with
 |cl h=>cases h with|tup a b=>exact⟨_,rfl,a,fun j x y p q=>.cl (b j x y p q)⟩
 |tup a b=>exact⟨_,rfl,a,b⟩
def Ay {cs:aA PV} (h:RV C (.ip cs) y):∃cs',y=.ip cs'/\LR (RC false) cs cs':=by
 cases h with
 |cl h=>cases h with|ip a b=>exact⟨_,rfl,a,b⟩
def Vv {e:Nat} {rows:aA (aA PV)} (h:RV C (.is e rows) y):(∃rows',y=.is e rows'/\RR rows rows')\/(rows=[]/\(y=.v (.slice none 0 0)\/y=.es)):=by
 cases h with
 |cl h=>cases h with
  |is a b c=>exact .inl ⟨_,rfl,.of_is a b c⟩
  |isn=>exact .inr ⟨rfl,.inl rfl⟩
def Vw {es:aA (PV×PV)} (h:RV C (.im es) y):∃es',y=.im es'/\ER es es':=by
 cases h with
 |cl h=>cases h with|im a b c=>exact⟨_,rfl,a,fun j x y p q=>⟨b j x y p q,c j x y p q⟩⟩
def nE {k o:Nat} (h:RV C (.ref k o) y):∃id ver e len,C k=some (.atp id ver e len)/\y=.ptr id ver 0 o:=by
 cases h with
 |cl h=>cases h
 |ref h=>exact⟨_,_,_,_,h,rfl⟩
def kD {k:Nat} (h:RV C (.own k) y):(∃id ver e len,C k=some (.atp id ver e len)/\y=.sl e id ver 0 len none)\/(C k=some .nil/\(y=.v (.slice none 0 0)\/y=.es)):=by
 cases h with
 |cl h=>cases h
 |own h=>exact .inl ⟨_,_,_,_,h,rfl⟩
 |ownn h hy=>exact .inr ⟨h,.inl hy⟩
def wB {e:Nat} {rows:aA (aA PV)} (h:RV C (.is e rows) y):(∃rows',y=.is e rows'/\RR rows rows')\/(rows=[]/\y=.v (.slice none 0 0)):=by
 cases h with
 |cl h=>cases h with
  |is a b c=>exact .inl ⟨_,rfl,.of_is a b c⟩
  |isn=>exact .inr ⟨rfl,rfl⟩
def iQ {k:Nat} (h:RV C (.own k) y):(∃id ver e len,C k=some (.atp id ver e len)/\y=.sl e id ver 0 len none)\/(C k=some .nil/\y=.v (.slice none 0 0)):=by
 cases h with
 |cl h=>cases h
 |own h=>exact .inl ⟨_,_,_,_,h,rfl⟩
 |ownn h hy=>exact .inr ⟨h,hy⟩
def tJ {k i o:Nat} (h:RV C (.el k i o) y):∃id ver e len,C k=some (.atp id ver e len)/\y=.ptr id ver i o:=by
 cases h with
 |cl h=>cases h
 |el h=>exact⟨_,_,_,_,h,rfl⟩
def Ew {k:Nat} (h:RV C (.map k) y):∃id ver e len,C k=some (.atp id ver e len)/\y=.map id:=by
 cases h with
 |cl h=>cases h
 |map h=>exact⟨_,_,_,_,h,rfl⟩
def Kx {k:Nat} (h:RV C (.yld k) y):∃id ver e len,C k=some (.atp id ver e len)/\y=.fn (.yield id) [] []:=by
 cases h with
 |cl h=>cases h
 |yld h=>exact⟨_,_,_,_,h,rfl⟩
def xR {f:FuncId} {a b:aA PV} (h:RV C (.fn f a b) y):∃a' b',y=.fn (.func f) a' b'/\LR (RV C) a a'/\LR (RV C) b b':=by
 cases h with
 |cl h=>cases h with|fn p q r s=>exact⟨_,_,rfl,⟨p,fun j x y h1 h2=>.cl (r j x y h1 h2)⟩,⟨q,fun j x y h1 h2=>.cl (s j x y h1 h2)⟩⟩
 |fn p q r s=>exact⟨_,_,rfl,⟨p,r⟩,⟨q,s⟩⟩
def LR.closed {xs:aA PV} {ys:aA AV} {p:Bool} (h:LR (RC p) xs ys):LR (RV C) xs ys:=h.mono fun _ _ h=>.cl h.weak
def zO {α:Type} {l:aA α} {o:Nat} {c:α} {t:aA α} (h:l.drop o=c::t):l[o]? =some c:=by
 have:=congrArg (fun l=>l[0]?) h;simpa[bH3]using this
end
section
variable {R:Type} {C:Cx} {n:Nat} {h:aY} {lim:Nat} {s:Hp} {k:gC} {xs:List PV} {ys:List AV} {K:PV->aY->Nat->Option R} {r:R}
def oU (C:Cx) (n:Nat) (pl:Pl):ext C n pl n=some pl:=aE3 rfl
def aE {A:Type} {a:A} {P:Prop} (h:(none:aB A)=some a):P:=by cases h
def vZ1 (a:dK C n h lim s) (b:LR (RV C) xs ys) (hk:fB .mov xs h n K=some r):gR C n h lim s .mov ys K r:=by
 rcases xs with _|⟨x,_|⟨x2,t⟩⟩
 exact aE hk;have hk:K x h n=some r:=hk;obtain⟨y,_,rfl,h1,h2⟩:=b.inv_cons;rw[h2.inv_nil];exact bW a rfl h1 hk;exact aE hk
def lR1 (c:dK C n h lim s) (d:LR (RV C) xs ys) (hk:fB .nilc xs h n K=some r):gR C n h lim s .nilc ys K r:=by
 rcases xs with _|⟨x,_|⟨x2,t⟩⟩
 exact aE hk;obtain⟨y,_,rfl,h1,h2⟩:=d.inv_cons;rw[h2.inv_nil];cases x with
 |ref k o=>obtain⟨id,ver,e,len,hc,rfl⟩:=nE h1;exact bW c rfl h1 hk
 |ip cs=>obtain⟨cs',rfl,_⟩:=Ay h1;exact bW c rfl h1 hk
 |el k i o=>obtain⟨id,ver,e,len,hc,rfl⟩:=tJ h1;exact bW c rfl h1 hk
 |fn f a b=>obtain⟨a',b',rfl,_⟩:=xR h1;exact bW c rfl h1 hk
 |yld k=>obtain⟨id,ver,e,len,hc,rfl⟩:=Kx h1;exact bW c rfl h1 hk
 |_=>exact aE hk
 exact aE hk
def wA1 {ty:TypeId} {size:Nat} (b:dK C n h lim s) (g:LR (RV C) xs ys) (hk:fB (.box ty size) xs h n K=some r):gR C n h lim s (.box ty size) ys K r:=by
 rcases xs with _|⟨x,_|⟨x2,t⟩⟩
 exact aE hk;have hk:mK x (fun cs=>bif Nat.beq cs.length size then(bif Nat.beq size 0 then none else K (.ref n 0) ((n,.box cs)::h) (n+1))else none)=some r:=hk;obtain⟨y,_,rfl,h1,h2⟩:=g.inv_cons;rw[h2.inv_nil];rw[lL,zY2]at hk;obtain⟨cs,d,hk⟩:=hk;obtain⟨cs',c,hl⟩:=oT h1 d;rw[bR]at hk;by_cases f:cs.length=size;rw[bE3 f,aL3,bR]at hk;by_cases e2:size=0
 grind
 rw[bC3 e2,aV3]at hk;have a:=mM b (.atp s.n 0 size 1);obtain⟨i,j,k⟩:=rM b (po:=.box cs) (ao:=.arr true ty size 0 [cs']) (ver:=0) (e:=size) (len:=1) ⟨b.lim,by omega,ty,size,cs',by rw[fM,aE3 rfl],hl.mono (fun _ _ h=>h.mono a)⟩;refine⟨_,_,_,_,{v:=.ptr s.n 0 0 0,new:=some (.arr true ty size 0 [cs'])},hk,?_,.ref (oU C n _),i,a,by omega,j,fun _=>k⟩;simp only[doOp,c];rw[aE3 ⟨by rw[<-hl.1];exact f,e2⟩]
 grind
 exact aE hk
def dY1 {ty:TypeId} {zero:aA Value} (a:dK C n h lim s) (c:LR (RV C) xs ys) (hk:fB (.alloc ty zero) xs h n K=some r):gR C n h lim s (.alloc ty zero) ys K r:=by
 rcases xs with _|⟨x,t⟩
 have hk:xF (zero.map .v) (fun cs=>K (.ref n 0) ((n,.box cs)::h) (n+1))=some r:=hk;rw[uE]at hk;rw[c.inv_nil];have b:=mM a (.atp s.n 0 zero.length 1);obtain⟨d,f,g⟩:=rM a (po:=.box (zero.map .v)) (ao:=.arr true ty zero.length 0 [Sim.zeroRow zero]) (ver:=0) (e:=zero.length) (len:=1) ⟨a.lim,by omega,ty,zero.length,Sim.zeroRow zero,by rw[fM,aE3 rfl],LR.zero zero⟩;exact⟨_,_,_,_,{v:=.ptr s.n 0 0 0,new:=some (.arr true ty zero.length 0 [Sim.zeroRow zero])},hk,rfl,.ref (oU C n _),d,b,by omega,f,fun _=>g⟩;exact aE hk
def Ey:∀(cells:aA PV) (parts:aA (Nat×Nat)) (xs:aA PV) (K:aA PV->aB R) (r:R) (a ys:aA AV),Ol cells parts xs K=some r->LR (RV C) cells a->LR (RV C) xs ys->
  ∃cs cs',K cs=some r/\Sim.fillParts a parts ys=some cs'/\LR (RV C) cs cs'
 |cells,[],[],K,r,a,ys,h,hl,hx=>by
  rw[hx.inv_nil]
  exact⟨cells,a,h,rfl,hl⟩
 |cells,(off,m)::ps,x::xs,K,r,a,ys,h,hl,hx=>by
  obtain⟨y,e,rfl,h1,h2⟩:=hx.inv_cons
  simp only[Ol,lL,zY2]at h
  obtain⟨cs,d,h⟩:=h
  obtain⟨cs',c,b⟩:=oT h1 d
  rw[bR]at h
  by_cases f:cs.length=m
  rw[bE3 f,aL3]at h
  obtain⟨i,g⟩:=lK _ _ _ _ _ h
  obtain⟨q,q',q1,q2,q3⟩:=Ey _ ps xs K r _ e g (hl.setL b off) h2
  refine⟨q,q',q1,?_,q3⟩
  simp only[Sim.fillParts,c]
  rw[aE3 ⟨by rw[<-b.1];exact f,by rw[<-hl.1];omega⟩]
  exact q2
  grind
 |cells,[],_::_,K,r,a,ys,h,hl,hx=>aE h
 |cells,_::_,[],K,r,a,ys,h,hl,hx=>aE h
def dZ1 {zero:aA Value} {parts:aA (Nat×Nat)} (e:dK C n h lim s) (f:LR (RV C) xs ys) (hk:fB (.build zero parts) xs h n K=some r):gR C n h lim s (.build zero parts) ys K r:=by
 have hk:xF (zero.map .v) (fun cs=>Ol cs parts xs fun cs=>K (.agg cs) h n)=some r:=by
  rcases xs with _|⟨a,_|⟨b,_|⟨c,t⟩⟩⟩<;>exact hk
 rw[uE]at hk;obtain⟨cs,cs',g,i,d⟩:=Ey _ _ _ _ _ _ _ hk (LR.zero (C:=C) zero) f;refine bW e ?_ (.agg d.1 d.2) g;rcases ys with _|⟨a,_|⟨b,_|⟨c,t⟩⟩⟩<;>simp[doOp,i]
def zP (f:dK C n h lim s) {k id ver e len:Nat} {cs:aA PV} (hg:aJ h k=some (.box cs)) (d:C k=some (.atp id ver e len)):lim<=id/\∃ty esz row,Sim.look s.h id=some (.arr true ty esz ver [row])/\LR (RV C) cs row:=by
 obtain⟨pl,h1,h2⟩:=f.hr.ob k _ hg;rw[d]at h1;cases h1;obtain⟨a,b,c⟩:=h2;exact⟨a,c⟩
def lX (j:dK C n h lim s) {k id ver e len e2 ty:Nat} {g:Bool} {rows:aA (aA PV)} (hg:aJ h k=some (.lst ty e2 g rows)) (i:C k=some (.atp id ver e len)):lim<=id/\e=e2/\len=rows.length/\∃els,Sim.look s.h id=some (.arr false (Ip ty) e2 ver els)/\RR rows (els.take rows.length)/\(rows.length<=els.length/\SL rows.length els)/\(g=false->els.length=rows.length):=by
 obtain⟨pl,h1,h2⟩:=j.hr.ob k _ hg;rw[i]at h1;cases h1;obtain⟨a,b,c,d,f⟩:=h2;exact⟨a,c,d,f⟩
def eA1 (j:dK C n h lim s) {k id ver e len:Nat} {fs:aA PV} (hg:aJ h k=some (.fl fs)) (g:C k=some (.atp id ver e len)):lim<=id/\e=1/\len=fs.length/\∃ty els,Sim.look s.h id=some (.arr false ty 1 ver els)/\els.length=fs.length/\∀(i:Nat) (f:PV) (row:aA AV),fs[i]? =some f->els[i]? =some row->LR (RV C) [f] row:=by
 obtain⟨pl,h1,h2⟩:=j.hr.ob k _ hg;rw[g]at h1;cases h1;obtain⟨a,b,c,d,f⟩:=h2;exact⟨a,c,d,f⟩
def eB1 (b:dK C n h lim s) {k:Nat} {fs:aA PV} (hg:aJ h k=some (.fl fs)) (a:C k=some .nil):False:=by
 obtain⟨pl,h1,h2⟩:=b.hr.ob k _ hg;rw[a]at h1;cases h1;exact h2
def nR (b:dK C n h lim s) {k e2 ty:Nat} {g:Bool} {rows:aA (aA PV)} (hg:aJ h k=some (.lst ty e2 g rows)) (a:C k=some .nil):rows=[]:=by
 obtain⟨pl,h1,h2⟩:=b.hr.ob k _ hg;rw[a]at h1;cases h1;exact h2
def Vx (f:dK C n h lim s) {k id ver e len:Nat} {es:aA (PV×PV)} (hg:aJ h k=some (.mp es)) (d:C k=some (.atp id ver e len)):lim<=id/\∃es',Sim.look s.h id=some (.map es')/\EM es es':=by
 obtain⟨pl,h1,h2⟩:=f.hr.ob k _ hg;rw[d]at h1;cases h1;obtain⟨a,b,c⟩:=h2;exact⟨a,c⟩
def Iu {y:AV} {d e:Nat} {rows:aA (aA PV)} (h:RV C (.zs d e rows) y):RZ C.z d (.is e rows) y:=by
 cases h with
 |cl h=>cases h
 |zs h=>exact h
def tI1 {y:AV} {es:aA (PV×PV)} (h:RV C (.zm es) y):(∃id es',y=.map id/\C.z id=some (.map es')/\EM es es')\/(es=[]/\y=.v (.map none)):=by
 cases h with
 |cl h=>cases h
 |zm h he=>exact .inl ⟨_,_,rfl,h,he⟩
 |zm0=>exact .inr ⟨rfl,rfl⟩
def Ez (b:dK C n h lim s) {k id ver e len e2 ty dp:Nat} {rows:aA (aA PV)} (hg:aJ h k=some (.lz ty e2 dp rows)) (a:C k=some (.atp id ver e len)):lim<=id/\id<s.n/\e=e2/\len=rows.length/\gT ty=false/\∃els,Sim.look s.h id=some (.arr false ty e2 ver els)/\Is C.z dp rows els:=by
 obtain⟨pl,h1,h2⟩:=b.hr.ob k _ hg;rw[a]at h1;cases h1;exact h2
def Fa (b:dK C n h lim s) {k e2 ty dp:Nat} {rows:aA (aA PV)} (hg:aJ h k=some (.lz ty e2 dp rows)) (a:C k=some .nil):rows=[]:=by
 obtain⟨pl,h1,h2⟩:=b.hr.ob k _ hg;rw[a]at h1;cases h1;exact h2
def tJ1 {p:Bool} {e:Nat} {rows:aA (aA PV)} {y:AV} (h:RC p (.is e rows) y):(∃rows',y=.is e rows'/\RR rows rows')\/(rows=[]/\y=.v (.slice none 0 0)):=by
 cases h with
 |is a b c=>exact .inl ⟨_,rfl,.of_is a b c⟩
 |isn=>exact .inr ⟨rfl,rfl⟩
def Iv {z:Nat->aB AO} {d e:Nat} {rows:aA (aA PV)} {y:AV} (h:RZ z d (.is e rows) y):
  ((∃rows',y=.is e rows'/\RR rows rows')\/(rows=[]/\y=.v (.slice none 0 0)))\/∃c id ver ty els,d=c+1/\y=.sl e id ver 0 rows.length none/\z id=some (.arr false ty e ver els)/\rows.length<=els.length/\Is z c rows (els.take rows.length):=by
 cases d with
 |zero=>exact .inl (tJ1 h)
 |succ d=>
  rcases h with h|⟨e',rows',id,ver,ty,els,h1,h2,h3,h4,h5⟩
  exact .inl (tJ1 h);cases h1;refine .inr ⟨d,id,ver,ty,els,rfl,h2,h3,h4,by simp[cI3 h4],fun i r r' a b=>h5 i r r' a ?_⟩;rw[aY3]at b;split at b;exact b;cases b
def lY (f:dK C n h lim s) {k id ver e len e2 ty:Nat} {ks:aA (Nat×TD)} {rows:aA (aA PV)} {hs:aA (Nat×Nat×PV)} (hg:aJ h k=some (.tr (.nd ty e2 ks) rows hs)) (c:C k=some (.atp id ver e len)):lim<=id/\id<s.n/\e=e2/\len=rows.length/\gT ty=false/\∃els d,Sim.look s.h id=some (.arr false ty e2 ver els)/\(rows.length<=els.length/\SL rows.length els)/\
  ∀(i:Nat) (r:aA PV) (r':aA AV),rows[i]? =some r->els[i]? =some r'->r.length=r'.length/\∀(j:Nat) (a:PV) (b:AV),r[j]? =some a->r'[j]? =some b->TC C (Sim.look s.h) lim s.n d id ks hs i j a b:=by
 obtain⟨pl,h1,h2⟩:=f.hr.ob k _ hg;rw[c]at h1;cases h1;exact h2
def tK (b:dK C n h lim s) {k:Nat} {t:TD} {rows:aA (aA PV)} {hs:aA (Nat×Nat×PV)} (hg:aJ h k=some (.tr t rows hs)) (a:C k=some .nil):rows=[]/\hs=[]:=by
 obtain⟨pl,h1,h2⟩:=b.hr.ob k _ hg;rw[a]at h1;cases h1;cases t;exact h2
def zQ {rows:aA (aA PV)} {els:aA (aA AV)} (a:rows.length<=els.length/\SL rows.length els) {i:Nat} {row:aA PV} (hi:rows[i]? =some row):∃b,els[i]? =some b:=by
 have c:=a.1;have d:i<rows.length:=(zZ2.1 hi).1;exact⟨els[i]'(by omega),by simp⟩
def qJ {α:Type}:∀(cs l:aA α) (o:Nat),(Sim.setL l o cs).length=l.length
 |[],_,_=>rfl
 |c::cs,l,o=>by
  show(Sim.setL (l.set o c) (o+1) cs).length=_
  rw[qJ cs,bV3]
def lZ {α:Type}:∀{cs l:aA α} {o j:Nat},(j<o\/o+cs.length<=j)->(Sim.setL l o cs)[j]? =l[j]?
 |[],_,_,_,_=>rfl
 |c::cs,l,o,j,h=>by
  show(Sim.setL (l.set o c) (o+1) cs)[j]? =_
  simp only[bG3]at h
  rw[lZ (by omega),aP3 (by omega)]
def uG {α:Type}:∀{cs l:aA α} {o j:Nat},o+cs.length<=l.length->o<=j->j<o+cs.length->(Sim.setL l o cs)[j]? =cs[j-o]?
 |[],_,o,j,_,h1,h2=>by simp at h2;omega
 |c::cs,l,o,j,h,h1,h2=>by
  show(Sim.setL (l.set o c) (o+1) cs)[j]? =_
  simp only[bG3]at h h2
  by_cases e:j=o
  subst e
  rw[lZ (by omega),aX3]
  simp
  omega
  rw[uG (by simpa using(by omega:o+1+cs.length<=l.length)) (by omega) (by omega),show j-o=(j-(o+1))+1 by omega,List.getElem?_cons_succ]
def wC {ks:aA (Nat×TD)}:∀(cs:aA PV) (o:Nat) (K:aA PV->aB R) (r:R),xL ks o cs K=some r->∃cs',K cs'=some r/\cs'.length=cs.length/\∀(j:Nat) (a':PV),cs'[j]? =some a'->(∃a,cs[j]? =some a/\gK ks (o+j)=none/\a'=a)\/a'=.undef
 |[],o,K,r,h=>⟨[],h,rfl,fun j a h=>by simp at h⟩
 |x::xs,o,K,r,h=>by
  unfold xL at h
  have step:∀(b:PV),((b=x/\gK ks o=none)\/b=.undef)->xL ks (o+1) xs (fun xs=>K (b::xs))=some r->∃cs',K cs'=some r/\cs'.length=(x::xs).length/\∀(j:Nat) (a':PV),cs'[j]? =some a'->(∃a,(x::xs)[j]? =some a/\gK ks (o+j)=none/\a'=a)\/a'=.undef:=fun b e h=>by
   obtain⟨cs',h1,h2,d⟩:=wC xs (o+1) _ r h
   refine⟨b::cs',h1,by simp[h2],fun j a' c=>?_⟩
   cases j with
   |zero=>
    simp only[cB3,aF3]at c
    subst c
    rcases e with⟨rfl,hk⟩|rfl
    grind
    exact .inr rfl
   |succ j=>
    rw[List.getElem?_cons_succ]at c ⊢
    rw[show o+(j+1)=o+1+j by omega]
    exact d j a' c
  cases hk:gK ks o with
  |none=>rw[hk]at h;exact step x (.inl ⟨rfl,hk⟩) h
  |some t=>rw[hk]at h;exact step _ (.inr rfl) h
def Fb {i j:Nat} {K:Unit->aB R} {r:R} (h:cF (On i j) K=some r):i=j/\K ()=some r:=by
 rw[cD,zY2]at h;obtain⟨u,h1,h2⟩:=h;unfold On at h1;split at h1
 grind
 cases h1
def uH:∀{hs:aA (Nat×Nat×PV)} {o:Nat},Es hs o=none->∀i x,(o,i,x)∉hs
 |[],_,_,_,_=>fun h=>by cases h
 |(j,i',x)::r,o,h,i,y=>by
  unfold Es at h
  rw[bR]at h
  by_cases e:j=o
  grind
  rw[bC3 e]at h
  intro a
  rcases aM3.1 a with a|a
  grind
  exact uH h i y a
def uI:∀{hs:aA (Nat×Nat×PV)} {o i:Nat} {x:PV},Es hs o=some (i,x)->(o,i,x)∈hs/\(∀q,q∈Yy hs o->q∈hs)/\∀b c y,¬(b=i/\c=o)->(c,b,y)∈hs->(c,b,y)∈Yy hs o
 |[],_,_,_,h=>by cases h
 |(j,i1,y)::r,o,i,x,h=>by
  unfold Es at h
  rw[bR]at h
  by_cases e:j=o
  rw[bE3 e]at h
  cases h
  subst e
  simp only[Yy,bR,cA3,aL3]
  refine⟨List.mem_cons_self ..,fun q d=>bJ3 _ d,fun b c y hn a=>?_⟩
  rcases aM3.1 a with a|a
  grind
  exact a
  rw[bC3 e]at h
  obtain⟨h1,h2,f⟩:=uI h
  simp only[Yy,bR,bC3 e,aV3]
  refine⟨bJ3 _ h1,fun q d=>?_,fun b c y hn a=>?_⟩
  grind
  grind
def Fc {hs:aA (Nat×Nat×PV)} {o i:Nat} {K:aA (Nat×Nat×PV)->aB R} {r:R} (h:Vn hs o i K=some r):∃a,K a=some r/\∀b c x,¬(b=i/\c=o)->((c,b,x)∈a↔(c,b,x)∈hs):=by
 unfold Vn at h;cases hc:Es hs o with
 |none=>rw[hc]at h;exact⟨hs,h,fun _ _ _ _=>Iff.rfl⟩
 |some p=>
  obtain⟨d,x⟩:=p;rw[hc]at h;simp only at h;obtain⟨e,h1⟩:=Fb h;subst e;exact⟨_,h1,fun b c y hn=>⟨(uI hc).2.1 _,(uI hc).2.2 b c y hn⟩⟩
def Oz (C:Cx) (ks:aA (Nat×TD)) (hs:aA (Nat×Nat×PV)) (i j:Nat) (a:PV) (b:AV):Prop:=match gK ks j with
 |none=>RC true a b
 |some (.nd _ e _)=>a=.is e []/\((Bk hs i j/\∀x,(j,i,x)∈hs->RV C x b)\/(¬Bk hs i j/\b=.v (.slice none 0 0)))
def rN {ks:aA (Nat×TD)} {i:Nat}:∀(ys:aA PV) (o:Nat) (hs:aA (Nat×Nat×PV)) (zs:aA AV) (K:aA PV->aA (Nat×Nat×PV)->aB R) (r:R),xM ks i o ys hs K=some r->LR (RV C) ys zs->
  ∃l c,K l c=some r/\l.length=ys.length/\(∀g f x,(g≠i\/f<o\/o+ys.length<=f)->((f,g,x)∈c↔(f,g,x)∈hs))/\∀(j:Nat) (a:PV) (b:AV),l[j]? =some a->zs[j]? =some b->Oz C ks c i (o+j) a b
 |[],o,hs,zs,K,r,h,hl=>⟨[],hs,h,rfl,fun _ _ _ _=>Iff.rfl,fun j a b h=>by simp at h⟩
 |y::ys,o,hs,zs,K,r,h,hl=>by
  obtain⟨z,n,rfl,hv,p⟩:=hl.inv_cons
  unfold xM at h
  cases hk:gK ks o with
  |none=>
   rw[hk]at h
   simp only at h
   cases hp:gZ y with
   |false=>rw[hp]at h;exact aE h
   |true=>
    rw[hp,aL3]at h
    obtain⟨l,c,h1,h2,q,s⟩:=rN ys (o+1) hs n _ r h p
    refine⟨y::l,c,h1,by simp[h2],fun g f x hc=>q g f x (by simp only[bG3]at hc;omega),fun j a b m hb=>?_⟩
    cases j with
    |zero=>
     simp only[cB3,aF3]at m hb
     subst m hb
     unfold Oz
     rw[cQ3,hk]
     exact hv.plain hp
    |succ j=>
     rw[List.getElem?_cons_succ]at m hb
     rw[show o+(j+1)=o+1+j by omega]
     exact s j a b m hb
  |some t=>
   obtain⟨ty,e,u⟩:=t
   rw[hk]at h
   simp only at h
   have key:∀(d:aA (Nat×Nat×PV)),(∀g f x,¬(g=i/\f=o)->((f,g,x)∈d↔(f,g,x)∈hs))->((Bk d i o/\∀x,(o,i,x)∈d->RV C x z)\/(¬Bk d i o/\z=.v (.slice none 0 0)))->xM ks i (o+1) ys d (fun l hs=>K (.is e []::l) hs)=some r->∃l c,K l c=some r/\l.length=(y::ys).length/\(∀g f x,(g≠i\/f<o\/o+(y::ys).length<=f)->((f,g,x)∈c↔(f,g,x)∈hs))/\∀(j:Nat) (a:PV) (b:AV),l[j]? =some a->(z::n)[j]? =some b->Oz C ks c i (o+j) a b:=fun d q1 q2 h=>by
    obtain⟨l,c,h1,h2,q,s⟩:=rN ys (o+1) d n _ r h p
    refine⟨_,c,h1,by simp[h2],fun g f x hc=>?_,fun j a b m hb=>?_⟩
    grind
    cases j with
    |zero=>
     simp only[cB3,aF3]at m hb
     subst m hb
     unfold Oz
     rw[cQ3,hk]
     have hi:=fun x=>q i o x (.inr (.inl (by omega)))
     refine⟨rfl,?_⟩
     rcases q2 with⟨⟨x,a1⟩,a2⟩|⟨a1,a2⟩
     exact .inl ⟨⟨x,(hi x).2 a1⟩,fun x k=>a2 x ((hi x).1 k)⟩
     exact .inr ⟨fun⟨x,k⟩=>a1 ⟨x,(hi x).1 k⟩,a2⟩
    |succ j=>
     rw[List.getElem?_cons_succ]at m hb
     rw[show o+(j+1)=o+1+j by omega]
     exact s j a b m hb
   split at h
   rename_i w
   obtain⟨d,h,q1⟩:=Fc h
   split at h
   rename_i hc
   refine key _ (fun g f x hn=>?_) (.inl ⟨⟨_,List.mem_cons_self ..⟩,fun x k=>?_⟩) h
   grind
   rcases aM3.1 k with k|k
   cases k;exact hv
   exact absurd k (uH hc i x)
   exact aE h
   obtain⟨d,h,q1⟩:=Fc h
   split at h
   rename_i hc
   exact key _ q1 (.inr ⟨fun⟨x,k⟩=>uH hc i x k,iE hv⟩) h
   exact aE h
   exact aE h
def Sx {rows:aA (aA PV)} {els:aA (aA AV)} (hr:RR rows (els.take rows.length)) {i:Nat} {row:aA PV} (hi:rows[i]? =some row):∃a,els[i]? =some a/\LR (RC true) row a:=by
 obtain⟨a,h1,h2⟩:=hr.get hi;have b:i<rows.length:=(zZ2.1 hi).1;rw[aY3,aE3 b]at h1;exact⟨a,h1,h2⟩
def Fd (C:Cx) (n:Nat) (h:aY) (s:Hp) (k:gC) (ys:aA AV) (K:PV->aY->Nat->aB R) (r:R):Prop:=∃v y,(∀lim nS,doOp (Sim.look s.h) lim nS k ys=some {v:=y})/\RV C v y/\K v h n=some r
def xS {k:gC} {v:PV} {y:AV} (hd:∀lim nS,doOp (Sim.look s.h) lim nS k ys=some {v:=y}) (hv:RV C v y) (hK:K v h n=some r):Fd C n h s k ys K r:=⟨v,y,hd,hv,hK⟩
def Fd.step (d:dK C n h lim s) {k:gC} (h1:Fd C n h s k ys K r):gR C n h lim s k ys K r:=by
 obtain⟨v,y,a,b,c⟩:=h1;exact bW d (a _ _) b c
def Fe (u:dK C n h lim s) (J:LR (RV C) xs ys) (hk:fB .loadS xs h n K=some r):Fd C n h s .loadS ys K r:=by
 rcases xs with _|⟨x,_|⟨x2,t⟩⟩
 exact aE hk;obtain⟨y,_,rfl,h1,h2⟩:=J.inv_cons;rw[h2.inv_nil];cases x with
 |ref k o=>
  have hk:hK h k (fun ob=>match ob with
   |.box cs=>jT o cs fun cs=>match cs with
    |c::_=>K c h n
    |[]=>none
   |_=>none)=some r:=hk
  rw[gV,zY2]at hk;obtain⟨ob,hg,hk⟩:=hk;cases ob with
  |box cs=>
   obtain⟨L,j⟩:=fP _ _ _ _ hk;obtain⟨id,ver,e,len,m,rfl⟩:=nE h1;obtain⟨_,ty,esz,row,p,hl⟩:=zP u hg m;cases hd:cs.drop o with
   |nil=>rw[hd]at j;exact aE j
   |cons c t=>
    rw[hd]at j;obtain⟨y,hy,hv⟩:=hl.get (zO hd);exact xS (fun lim nS=>by simp[doOp,p,hy]) hv j
  |_=>exact aE hk
 |ip cs=>
  obtain⟨cs',rfl,hl⟩:=Ay h1;cases cs with
  |nil=>exact aE hk
  |cons c t=>
   obtain⟨y,E,rfl,hv,_⟩:=hl.inv_cons;exact xS (fun _ _=>rfl) (.cl hv) hk
 |el k i o=>
  have hk:hK h k (fun ob=>match ob with
   |.lst _ _ _ rows=>cF (kT rows i o) fun c=>K c h n
   |.fl fs=>bif Nat.beq o 0 then(jT i fs fun fs=>match fs with
    |f::_=>K f h n
    |[]=>none)else none
   |.tr t rows _=>match gK t.ks o with
    |some _=>cF (kT rows i o) fun _=>K .undef h n
    |none=>cF (kT rows i o) fun c=>K c h n
   |_=>none)=some r:=hk
  rw[gV,zY2]at hk;obtain⟨ob,hg,hk⟩:=hk;cases ob with
  |lst ty e2 g rows=>
   simp only[cD,zY2,kT]at hk;obtain⟨c,⟨row,hi,w⟩,hk⟩:=hk;obtain⟨id,ver,e,len,m,rfl⟩:=tJ h1;obtain⟨_,rfl,_,els,p,hr,_⟩:=lX u hg m;obtain⟨a,b,hl⟩:=Sx hr hi;obtain⟨y,hy,hv⟩:=hl.get w;exact xS (fun lim nS=>by simp[doOp,p,b,hy]) (.cl hv.weak) hk
  |fl fs=>
   simp only[bR]at hk;by_cases G:o=0;subst G;rw[bE3 rfl,aL3]at hk;obtain⟨L,j⟩:=fP _ _ _ _ hk;obtain⟨id,ver,e,len,m,rfl⟩:=tJ h1;obtain⟨_,_,_,ty,els,p,hlen,hr⟩:=eA1 u hg m;cases hd:fs.drop i with
   |nil=>rw[hd]at j;exact aE j
   |cons c t=>
    rw[hd]at j;have hi:=zO hd;have D:=(zZ2.1 hi).1;obtain⟨y,E,l,hv,hn⟩:=(hr i c (els[i]'(by omega)) hi (by simp)).inv_cons;rw[hn.inv_nil]at l;have z:els[i]? =some [y]:=by rw[<-l];simp
    exact xS (fun lim nS=>by simp[doOp,p,z]) hv j
   grind
  |tr t rows hs=>
   obtain⟨ty,e2,ks⟩:=t
   have F:∀{v:PV->PV},(∀(d id:Nat) (c:PV) (y:AV),TC C (Sim.look s.h) lim s.n d id ks hs i o c y->RV C (v c) y)->cF (kT rows i o) (fun c=>K (v c) h n)=some r->Fd C n h s .loadS [y] K r:=fun{v} hv q=>by
    simp only[cD,zY2,kT]at q;obtain⟨c,⟨row,hi,w⟩,A⟩:=q;obtain⟨id,ver,e,len,m,rfl⟩:=tJ h1;obtain⟨_,_,rfl,_,_,els,d,p,B,hr⟩:=lY u hg m;obtain⟨a,b⟩:=zQ B hi;obtain⟨q1,q2⟩:=hr i row a hi b;have D:=(zZ2.1 w).1;have hy:a[o]? =some (a[o]'(by omega)):=by simp
    exact xS (fun lim nS=>by simp[doOp,p,b,hy]) (hv d id c _ (q2 o c _ w hy)) A
   have hk:(match gK ks o with
    |some _=>cF (kT rows i o) fun _=>K .undef h n
    |none=>cF (kT rows i o) fun c=>K c h n)=some r:=hk
   cases hkd:gK ks o with
   |none=>
    rw[hkd]at hk;exact F (v:=fun c=>c) (fun d id c y H=>.cl ((TC.none hkd).1 H).weak) hk
   |some t=>
    rw[hkd]at hk;exact F (v:=fun _=>.undef) (fun _ _ _ _ _=>.undef) hk
  |_=>exact aE hk
 |_=>exact aE hk
 exact aE hk
def Ff {m:Nat} (A:dK C n h lim s) (N:LR (RV C) xs ys) (hk:fB (.loadA m) xs h n K=some r):Fd C n h s (.loadA m) ys K r:=by
 rcases xs with _|⟨x,_|⟨x2,t⟩⟩
 exact aE hk;obtain⟨y,_,rfl,h1,h2⟩:=N.inv_cons;rw[h2.inv_nil];cases x with
 |ref k o=>
  have hk:hK h k (fun ob=>match ob with
   |.box cs=>jT o cs fun cs=>tD m cs fun cs=>K (.agg cs) h n
   |_=>none)=some r:=hk
  rw[gV,zY2]at hk;obtain⟨ob,hg,hk⟩:=hk;cases ob with
  |box cs=>
   obtain⟨R,O⟩:=fP _ _ _ _ hk;obtain⟨H,J⟩:=rL _ _ _ _ O;obtain⟨id,ver,e,len,w,rfl⟩:=nE h1;obtain⟨_,ty,esz,row,z,hl⟩:=zP A hg w;have hlen:=hl.1;simp only[List.length_drop]at H;have p:=(hl.drop o).take m;exact xS (fun lim nS=>by simp[doOp,z];omega) (.agg p.1 p.2) J
  |_=>exact aE hk
 |ip cs=>
  obtain⟨cs',rfl,hl⟩:=Ay h1;have hk:tD m cs (fun cs=>K (.agg cs) h n)=some r:=hk;obtain⟨H,J⟩:=rL _ _ _ _ hk;have p:=hl.take m;refine xS (fun lim nS=>?_) (.cl (.agg p.1 p.2)) J;simp only[doOp];rw[aE3 (by rw[<-hl.1];exact H)]
 |el k i o=>
  have hk:hK h k (fun ob=>match ob with
   |.lst _ _ _ rows=>cF (lT rows i o m) fun cs=>K (.agg cs) h n
   |.tr t rows _=>cF (lT rows i o m) fun cs=>xL t.ks o cs fun cs=>K (.agg cs) h n
   |_=>none)=some r:=hk
  rw[gV,zY2]at hk;obtain⟨ob,hg,hk⟩:=hk;cases ob with
  |lst ty e2 g rows=>
   simp only[cD,zY2,lT]at hk;obtain⟨c,⟨row,hi,q⟩,hk⟩:=hk;split at q;rename_i G;cases q;obtain⟨id,ver,e,len,w,rfl⟩:=tJ h1;obtain⟨_,rfl,_,els,z,hr,_⟩:=lX A hg w;obtain⟨f,l,hl⟩:=Sx hr hi;have p:=(hl.drop o).take m;have hlen:=hl.1;exact xS (fun lim nS=>by simp[doOp,z,l];omega) (.cl (.agg p.1 fun j x y a b=>(p.2 j x y a b).weak)) hk;cases q
  |tr t rows hs=>
   obtain⟨ty,e2,ks⟩:=t;simp only[TD.ks,cD,zY2,lT]at hk;obtain⟨c,⟨row,hi,q⟩,hk⟩:=hk;split at q;rename_i G;cases q;obtain⟨cs',hk,D,E⟩:=wC _ _ _ _ hk;obtain⟨id,ver,e,len,w,rfl⟩:=tJ h1;obtain⟨_,_,rfl,_,_,els,d,z,F,hr⟩:=lY A hg w;obtain⟨f,l⟩:=zQ F hi;obtain⟨q1,q2⟩:=hr i row f hi l;refine xS (v:=.agg cs') (y:=.agg ((f.drop o).take m)) (fun lim nS=>by simp[doOp,z,l];omega) (.agg (by simp at D ⊢;omega) fun j a b M hb=>?_) hk;rcases E j a M with⟨P,u,L,rfl⟩|rfl;rw[aY3]at u hb;split at u;rename_i B;rw[aE3 B,bH3]at hb;rw[bH3]at u;exact .cl ((TC.none L).1 (q2 (o+j) a b u hb)).weak;cases u;exact .undef;cases q
  |_=>exact aE hk
 |_=>exact aE hk
 exact aE hk
def eC1 (a:dK C n h lim s) (b:LR (RV C) xs ys) (hk:fB .loadS xs h n K=some r):gR C n h lim s .loadS ys K r:=(Fe a b hk).step a
def eD1 {m:Nat} (a:dK C n h lim s) (b:LR (RV C) xs ys) (hk:fB (.loadA m) xs h n K=some r):gR C n h lim s (.loadA m) ys K r:=(Ff a b hk).step a
def eE1 {m:Nat} (H:dK C n h lim s) (hx:LR (RV C) xs ys) (hk:fB (.store m) xs h n K=some r):gR C n h lim s (.store m) ys K r:=by
 rcases xs with _|⟨p,_|⟨x,_|⟨x2,t⟩⟩⟩
 exact aE hk;exact aE hk;obtain⟨y1,_,rfl,h1,h2⟩:=hx.inv_cons;obtain⟨y2,_,rfl,h3,h4⟩:=h2.inv_cons;rw[h4.inv_nil];cases p with
 |ref k o=>
  have hk:hK h k (fun ob=>match ob with
   |.box cs=>mK x fun ys=>bif Nat.beq ys.length m then vW cs o ys fun cs=>hZ h k (.box cs) fun h=>K .undef h n else none
   |_=>none)=some r:=hk
  rw[gV,zY2]at hk;obtain⟨ob,hg,hk⟩:=hk;cases ob with
  |box cs=>
   simp only[lL,zY2]at hk;obtain⟨zs,F,hk⟩:=hk;obtain⟨q,E,y⟩:=oT h3 F;rw[bR]at hk;by_cases V:zs.length=m;rw[bE3 V,aL3]at hk;obtain⟨k1,k2⟩:=lK _ _ _ _ _ hk;have k3:=eF _ _ _ _ _ k2;obtain⟨id,ver,e,len,A,rfl⟩:=nE h1;obtain⟨u,ty,esz,row,N,hl⟩:=zP H hg A;have hid:=(H.hr.lt (by rw[hg];simp) A).2;obtain⟨m1,m2⟩:=wA H (po':=.box (Sim.setL cs o zs)) (ao:=.arr true ty esz ver [Sim.setL row o q]) hg A ⟨u,hid,ty,esz,_,by rw[Sim.look_upd];simp[N],hl.setL y o⟩ rfl;have hlen:=hl.1;have T:=y.1;refine⟨_,_,_,_,{v:=.undef,up:=some (id,.arr true ty esz ver [Sim.setL row o q])},k3,?_,.undef,m1,.refl _,aC3 _,m2,fun he=>by cases he⟩;simp only[doOp,E,N];rw[aE3 ⟨by trivial,u,by omega⟩];simp only[cB3];rw[aE3 (by omega)];rfl;rw[bC3 V]at hk;exact aE hk
  |_=>exact aE hk
 |el k i o=>
  have hk:hK h k (fun ob=>match ob with
   |.lst ty e g rows=>mK x fun ys=>bif Nat.beq ys.length m&&ys.all gZ then cF (oP rows i o ys) fun rows=>hZ h k (.lst ty e g rows) fun h=>K .undef h n else none
   |.tr t rows hs=>mK x fun ys=>bif Nat.beq ys.length m then xM t.ks i o ys hs fun ys hs=>cF (oP rows i o ys) fun rows=>hZ h k (.tr t rows hs) fun h=>K .undef h n else none
   |_=>none)=some r:=hk
  rw[gV,zY2]at hk;obtain⟨ob,hg,hk⟩:=hk;cases ob with
  |lst ty e2 g rows=>
   simp only[lL,zY2]at hk;obtain⟨zs,F,hk⟩:=hk;obtain⟨q,E,y⟩:=oT h3 F;by_cases hc:(Nat.beq zs.length m&&zs.all gZ)=true;rw[hc,aL3,cD,zY2]at hk;simp only[aA3,bR,aH3]at hc;obtain⟨U,c,hk⟩:=hk;have k3:=eF _ _ _ _ _ hk;unfold oP at c;split at c;rename_i row hi;split at c;rename_i b6;cases c;obtain⟨id,ver,e,len,A,rfl⟩:=tJ h1;obtain⟨u,rfl,hlen,els,N,hr,z,b0⟩:=lX H hg A;have hid:=(H.hr.lt (by rw[hg];simp) A).2;obtain⟨f,D,hl⟩:=Sx hr hi;have O:i<rows.length:=(zZ2.1 hi).1;have b9:=y.plain hc.2
   obtain⟨m1,m2⟩:=wA H (po':=.lst ty e g (rows.set i (Sim.setL row o zs))) (ao:=.arr false (Ip ty) e ver (els.set i (Sim.setL f o q))) hg A
    ⟨u,hid,rfl,by simpa using hlen,els.set i (Sim.setL f o q),by rw[Sim.look_upd];simp[N],by
     rw[bV3,List.take_set];exact hr.set (hl.setL b9 o) i,LS.set z hi,by simpa using b0⟩ rfl
   have b7:=hl.1;have T:=y.1;refine⟨_,_,_,_,{v:=.undef,up:=some (id,.arr false (Ip ty) e ver (els.set i (Sim.setL f o q)))},k3,?_,.undef,m1,.refl _,aC3 _,m2,fun he=>by cases he⟩;simp only[doOp,E,N];rw[aE3 ⟨by trivial,u,by omega⟩,D];simp only;rw[aE3 (by omega)];cases c;cases c;simp only[dM3]at hc;rw[hc]at hk;exact aE hk
  |tr t rows hs=>
   obtain⟨ty,e2,ks⟩:=t;simp only[TD.ks,lL,zY2]at hk;obtain⟨zs,F,hk⟩:=hk;obtain⟨q,E,y⟩:=oT h3 F;rw[bR]at hk;by_cases V:zs.length=m;rw[bE3 V,aL3]at hk;obtain⟨l,X,hk,d2,b4,b5⟩:=rN _ _ _ _ _ _ hk y;rw[cD,zY2]at hk;obtain⟨U,c,hk⟩:=hk;have k3:=eF _ _ _ _ _ hk;unfold oP at c;split at c;rename_i row hi;split at c;rename_i b6;cases c;obtain⟨id,ver,e,len,A,rfl⟩:=tJ h1;obtain⟨u,hid,rfl,hlen,a0,els,d,N,z,hr⟩:=lY H hg A;obtain⟨f,D⟩:=zQ z hi;obtain⟨q1,q2⟩:=hr i row f hi D;have b8:=y.1;have Z:=H.hr.wn k id ver e len (by rw[hg];simp) A;have Y:∀G,G≠id->Sim.look (upd s.h id (.arr false ty e ver (els.set i (Sim.setL f o q)))) G=Sim.look s.h G:=fun G h=>by rw[Sim.look_upd];simp[h]
   have hW:∀G sl,C.w G=some sl->¬False->C.w G=some sl/\Sim.look (upd s.h id (.arr false ty e ver (els.set i (Sim.setL f o q)))) G=Sim.look s.h G:=fun G sl hw _=>⟨hw,Y G fun h=>by rw[h,Z]at hw;cases hw⟩
   obtain⟨m1,m2⟩:=wA H (po':=.tr (.nd ty e ks) (rows.set i (Sim.setL row o l)) X) (ao:=.arr false ty e ver (els.set i (Sim.setL f o q))) hg A
    ⟨u,hid,rfl,by simpa using hlen,a0,els.set i (Sim.setL f o q),d+1,by rw[Sim.look_upd];simp[N],LS.set z hi,fun P r1 d0 R hb=>by
     have old:∀{r2 J:aA _},rows[P]? =some r2->els[P]? =some J->∀(j:Nat) (a:PV) (b:AV),r2[j]? =some a->J[j]? =some b->(P≠i\/j<o\/o+zs.length<=j)->TC C (Sim.look (upd s.h id (.arr false ty e ver (els.set i (Sim.setL f o q))))) lim s.n (d+1) id ks X P j a b:=fun{r2 J} g1 g2 j a b L M g5=>by
      have:=((hr P r2 J g1 g2).2 j a b L M).mono (aC3 _) (.refl C) (B:=fun _=>False) (fun _ h=>h.elim) hW (fun h=>h);unfold TC at this ⊢;have hi:=fun x=>b4 P j x g5;cases hkd:gK ks j with
      |none=>rw[hkd]at this;exact this
      |some t=>
       rw[hkd]at this;simp only at this ⊢;rcases this with⟨⟨x,a1⟩,a2⟩|⟨a1,a2⟩
       exact .inl ⟨⟨x,(hi x).2 a1⟩,fun x hx=>a2 x ((hi x).1 hx)⟩;exact .inr ⟨fun⟨x,hx⟩=>a1 ⟨x,(hi x).1 hx⟩,a2.up1⟩
     rw[aX3]at R hb;by_cases S:i=P;subst S;rw[aE3 rfl]at R hb;have O:=(zZ2.1 hi).1;rw[aE3 O]at R;rw[aE3 (by omega)]at hb;cases R;cases hb;refine⟨by rw[qJ,qJ];exact q1,fun j a b L M=>?_⟩;by_cases W:o<=j/\j<o+zs.length;rw[uG (by omega) W.1 (by omega)]at L;rw[uG (by omega) W.1 (by omega)]at M;have:=b5 (j-o) a b L M;rw[show o+(j-o)=j by omega]at this;unfold Oz at this;unfold TC;cases hkd:gK ks j with
     |none=>rw[hkd]at this;exact this
     |some t=>
      obtain⟨d4,e3,d3⟩:=t;rw[hkd]at this;simp only at this ⊢;obtain⟨rfl,this⟩:=this;rcases this with this|⟨a1,a2⟩
      exact .inl this;exact .inr ⟨a1,[],rfl,.inl ⟨rfl,a2⟩⟩
     rw[lZ (by omega)]at L;rw[lZ (by omega)]at M;exact old hi D j a b L M (by omega);rw[aG3 S]at R hb;exact⟨(hr P r1 d0 R hb).1,fun j a b L M=>old R hb j a b L M (.inl fun h=>S h.symm)⟩⟩ rfl
   refine⟨_,_,_,_,{v:=.undef,up:=some (id,.arr false ty e ver (els.set i (Sim.setL f o q)))},k3,?_,.undef,m1,.refl _,aC3 _,m2,fun he=>by cases he⟩;simp only[doOp,E,N];rw[aE3 ⟨by trivial,u,by omega⟩,D];simp only;rw[aE3 (by omega)];cases c;cases c;rw[bC3 V]at hk;exact aE hk
  |_=>exact aE hk
 |_=>exact aE hk
 exact aE hk
def wB1 {off:Nat} (b:dK C n h lim s) (d:LR (RV C) xs ys) (hk:fB (.fad off) xs h n K=some r):gR C n h lim s (.fad off) ys K r:=by
 rcases xs with _|⟨x,_|⟨x2,t⟩⟩
 exact aE hk;obtain⟨y,_,rfl,h1,h2⟩:=d.inv_cons;rw[h2.inv_nil];cases x with
 |ref k o=>
  obtain⟨id,ver,e,len,a,rfl⟩:=nE h1;exact bW b rfl (.ref a) hk
 |ip cs=>
  have hk:jT off cs (fun cs=>K (.ip cs) h n)=some r:=hk;obtain⟨g,f⟩:=fP _ _ _ _ hk;obtain⟨cs',rfl,hl⟩:=Ay h1;have c:=hl.drop off;exact bW b rfl (.cl (.ip c.1 c.2)) f
 |el k i o=>
  obtain⟨id,ver,e,len,a,rfl⟩:=tJ h1;exact bW b rfl (.el a) hk
 |_=>exact aE hk
 exact aE hk
end
end Go.P
namespace Go.P
open Go.Sim (AV AO Hp gN upd St IC IX Ex gC CK Wf Out doOp)
section
variable {R:Type} {C:Cx} {n:Nat} {h:aY} {lim:Nat} {s:Hp} {k:gC} {xs:List PV} {ys:List AV} {K:PV->aY->Nat->Option R} {r:R}
def wC1 {e:Nat} (f:dK C n h lim s) (B:LR (RV C) xs ys) (hk:fB (.iad e) xs h n K=some r):gR C n h lim s (.iad e) ys K r:=by
 rcases xs with _|⟨x,_|⟨i,_|⟨x2,t⟩⟩⟩
 exact aE hk;exact aE hk;obtain⟨D,_,rfl,h1,h2⟩:=B.inv_cons;obtain⟨E,_,rfl,z,A⟩:=h2.inv_cons;rw[A.inv_nil];cases i with
 |v iv=>
  cases iv with
  |int kk i=>
   rw[iE z];cases x with
   |is e' rows=>
    have hk:(bif Nat.beq e' e then cF (vX rows i) (fun row=>K (.ip row) h n)else none)=some r:=hk;rw[bR]at hk;by_cases l:e'=e;subst l;simp only[cA3,aL3,cD,zY2,vX]at hk;obtain⟨row,d,hk⟩:=hk;split at d;rename_i h0;rcases Vv h1 with⟨rows',rfl,hr⟩|⟨rfl,_⟩
    obtain⟨w,q,hl⟩:=hr.get d;exact bW f (by simp[doOp,Sim.intOf,h0,q]) (.cl (.ip hl.1 fun j x y a b=>(hl.2 j x y a b).weak)) hk;simp at d;cases d
    grind
   |own k=>
    have hk:hK h k (fun ob=>match ob with
     |.lst _ e' _ rows=>bif Nat.beq e' e then cF (sD rows.length i) (fun i=>K (.el k i 0) h n)else none
     |.fl fs=>bif Nat.beq e 1 then lN1 i (fun i=>bif Nat.blt i fs.length then K (.el k i 0) h n else none)else none
     |.tr t rows _=>match t with|.nd _ e' _=>bif Nat.beq e' e then cF (sD rows.length i) (fun i=>K (.el k i 0) h n)else none
     |_=>none)=some r:=hk
    rw[gV,zY2]at hk;obtain⟨ob,hg,hk⟩:=hk;cases ob with
    |lst ty e2 g rows=>
     simp only[bR]at hk;by_cases l:e2=e;subst l;simp only[cA3,aL3,cD,zY2,sD]at hk;obtain⟨m,p,o⟩:=hk;split at p;rename_i h0;cases p;rcases kD h1 with⟨id,ver,u,len,c,rfl⟩|⟨c,_⟩
     obtain⟨_,rfl,hlen,_⟩:=lX f hg c;refine bW (v:=.el k i.toNat 0) (y:=.ptr id ver i.toNat 0) f ?_ (.el c) o;simp only[doOp,Sim.intOf];rw[aE3 ⟨by trivial,h0.1,by omega⟩,bX3];have:=nR f hg c;subst this;simp at h0;omega;cases p
     grind
    |fl fs=>
     simp only[bR]at hk;by_cases l:e=1;subst l;rw[bE3 rfl,aL3]at hk;cases i with
     |negSucc m=>exact aE hk
     |ofNat m=>
      cases hlt:Nat.blt m fs.length with
      |false=>simp only[lN1,hlt,aV3]at hk;exact aE hk
      |true=>
       simp only[lN1,hlt,aL3]at hk;rw[cP3]at hlt;rcases kD h1 with⟨id,ver,u,len,c,rfl⟩|⟨c,_⟩
       obtain⟨_,rfl,hlen,_⟩:=eA1 f hg c;refine bW (v:=.el k m 0) (y:=.ptr id ver m 0) f ?_ (.el c) hk;simp only[doOp,Sim.intOf];rw[aE3 ⟨by trivial,by simp,by simp;omega⟩,bX3];rfl;exact(eB1 f hg c).elim
     grind
    |tr t rows hs=>
     obtain⟨ty,e2,ks⟩:=t;simp only[bR]at hk;by_cases l:e2=e;subst l;simp only[cA3,aL3,cD,zY2,sD]at hk;obtain⟨m,p,o⟩:=hk;split at p;rename_i h0;cases p;rcases kD h1 with⟨id,ver,u,len,c,rfl⟩|⟨c,_⟩
     obtain⟨_,_,rfl,hlen,_⟩:=lY f hg c;refine bW (v:=.el k i.toNat 0) (y:=.ptr id ver i.toNat 0) f ?_ (.el c) o;simp only[doOp,Sim.intOf];rw[aE3 ⟨by trivial,h0.1,by omega⟩,bX3];have:=(tK f hg c).1;subst this;simp at h0;omega;cases p
     grind
    |_=>exact aE hk
   |_=>exact aE hk
  |_=>exact aE hk
 |_=>exact aE hk
 exact aE hk
def Zf (e:dK C n h lim s) (f:LR (RV C) xs ys) (hk:fB .idxStr xs h n K=some r):gR C n h lim s .idxStr ys K r:=by
 rcases xs with _|⟨x,_|⟨i,_|⟨x2,t⟩⟩⟩
 exact aE hk;exact aE hk;obtain⟨j,_,rfl,h1,h2⟩:=f.inv_cons;obtain⟨k,_,rfl,c,d⟩:=h2.inv_cons;rw[d.inv_nil];cases x with
 |v xv=>
  cases xv with
  |string b=>
   cases i with
   |v iv=>
    cases iv with
    |int kk i=>
     rw[iE h1,iE c];have hk:cF (tE b i) (fun b=>K (.v (.int .u8 b)) h n)=some r:=hk;simp only[cD,zY2,tE]at hk;obtain⟨m,a,hk⟩:=hk;split at a;rename_i h0;simp only[aB3]at a;obtain⟨g,hb,rfl⟩:=a;refine bW e ?_ (.cl (.v _)) hk;simp only[doOp,Sim.intOf];rw[aE3 h0,hb];cases a
    |_=>exact aE hk
   |_=>exact aE hk
  |_=>cases i with
   |v iv=>cases iv<;>exact aE hk
   |_=>exact aE hk
 |_=>cases i with
  |v iv=>cases iv<;>exact aE hk
  |_=>exact aE hk
 exact aE hk
def lS1 {len e:Nat} {agg:Bool} (b:dK C n h lim s) (j:LR (RV C) xs ys) (hk:fB (.idxA len e agg) xs h n K=some r):gR C n h lim s (.idxA len e agg) ys K r:=by
 rcases xs with _|⟨x,_|⟨i,_|⟨x2,t⟩⟩⟩
 exact aE hk;exact aE hk;obtain⟨k,_,rfl,h1,h2⟩:=j.inv_cons;obtain⟨l,_,rfl,f,g⟩:=h2.inv_cons;rw[g.inv_nil];cases x with
 |agg cs=>
  obtain⟨cs',rfl,hl⟩:=pY h1;cases i with
  |v iv=>
   cases iv with
   |int kk i=>
    rw[iE f];have hk:(bif agg then cF (tF cs i len e) (fun cs=>K (.agg cs) h n)else cF (xG cs i len e) fun c=>K c h n)=some r:=hk;cases agg with
    |true=>
     simp only[aL3,cD,zY2,tF]at hk;obtain⟨q,a,hk⟩:=hk;split at a;rename_i h0;cases a;have d:=(hl.drop (i.toNat*e)).take e;refine bW b ?_ (.agg d.1 d.2) hk;simp only[doOp,Sim.intOf];rw[aE3 ⟨h0.1,h0.2.1⟩];rfl;cases a
    |false=>
     simp only[aV3,cD,zY2,xG]at hk;obtain⟨q,a,hk⟩:=hk;split at a;rename_i h0;obtain⟨y,hy,hv⟩:=hl.get a;refine bW b ?_ hv hk;simp only[doOp,Sim.intOf];rw[aE3 h0];simp[hy];cases a
   |_=>exact aE hk
  |_=>exact aE hk
 |_=>cases i with
  |v iv=>cases iv<;>exact aE hk
  |_=>exact aE hk
 exact aE hk
def Zg {op:BinOp} {x y:PV} {K:PV->aB R} {r:R} (hk:vT1 op x y K=some r):∃a b c,x=.v a/\y=.v b/\Sim.binS op a b=some c/\K (.v c)=some r:=by
 cases x with
 |v a=>
  cases y with
  |v b=>
   cases a with
   |int k a=>
    cases b with
    |int k' b=>
     have key:∀{z:aB R} {w:aB Value},(op≠.shl/\op≠.shr)->(vT1 op (.v (.int k a)) (.v (.int k' b)) K=bif kEq k k' then z else none)->(Sim.binS op (.int k a) (.int k' b)=if k=k' then w else none)->(z=some r->∃c,w=some c/\K (.v c)=some r)->∃a' b' c,PV.v (.int k a)=.v a'/\PV.v (.int k' b)=.v b'/\Sim.binS op a' b'=some c/\K (.v c)=some r:=by
      intro z w _ f e2 g;rw[f,Kw]at hk;by_cases e:k=k'
      .rw [bE3 e,aL3]at hk
       obtain⟨c,i,j⟩:=g hk;exact⟨_,_,c,rfl,rfl,by rw[e2,aE3 e];exact i,j⟩
      .rw [bC3 e]at hk;exact aE hk
     cases op
     case shl=>
      have hk:cF (if b<0 then none else some (k.wrap (a*2^min b.toNat k.bits))) (fun r=>K (.v (.int k r)))=some r:=hk;simp only[cD,zY2]at hk;obtain⟨q,d,hk⟩:=hk;split at d
      .cases d
      .rename_i h0
       cases d;exact⟨_,_,_,rfl,rfl,by simp only[Sim.binS];rw[aG3 h0],hk⟩
     case shr=>
      have hk:cF (if b<0 then none else some (a.fdiv (2^min b.toNat k.bits))) (fun r=>K (.v (.int k r)))=some r:=hk;simp only[cD,zY2]at hk;obtain⟨q,d,hk⟩:=hk;split at d
      .cases d
      .rename_i h0
       cases d;exact⟨_,_,_,rfl,rfl,by simp only[Sim.binS];rw[aG3 h0],hk⟩
     case add=>exact key (by simp) rfl rfl (fun h=>⟨_,rfl,h⟩)
     case sub=>exact key (by simp) rfl rfl (fun h=>⟨_,rfl,h⟩)
     case mul=>exact key (by simp) rfl rfl (fun h=>⟨_,rfl,h⟩)
     case and=>exact key (by simp) rfl rfl (fun h=>⟨_,rfl,h⟩)
     case or=>exact key (by simp) rfl rfl (fun h=>⟨_,rfl,h⟩)
     case xor=>exact key (by simp) rfl rfl (fun h=>⟨_,rfl,h⟩)
     case andNot=>exact key (by simp) rfl rfl (fun h=>⟨_,rfl,h⟩)
     case eql=>exact key (by simp) rfl rfl (fun h=>⟨_,rfl,h⟩)
     case neq=>exact key (by simp) rfl rfl (fun h=>⟨_,rfl,h⟩)
     case lss=>exact key (by simp) rfl rfl (fun h=>⟨_,rfl,h⟩)
     case leq=>exact key (by simp) rfl rfl (fun h=>⟨_,rfl,h⟩)
     case gtr=>exact key (by simp) rfl rfl (fun h=>⟨_,rfl,h⟩)
     case geq=>exact key (by simp) rfl rfl (fun h=>⟨_,rfl,h⟩)
     case quo=>exact key (z:=cF (if b=0 then none else some (k.wrap (a.tdiv b))) fun r=>K (.v (.int k r))) (by simp) rfl rfl (fun h=>by
      simp only[cD,zY2]at h;obtain⟨q,d,h⟩:=h;split at d
      .cases d
      .rename_i h0;cases d;exact⟨_,by rw[aG3 h0],h⟩)
     case rem=>exact key (z:=cF (if b=0 then none else some (a.tmod b)) fun r=>K (.v (.int k r))) (by simp) rfl rfl (fun h=>by
      simp only[cD,zY2]at h;obtain⟨q,d,h⟩:=h;split at d
      .cases d
      .rename_i h0;cases d;exact⟨_,by rw[aG3 h0],h⟩)
     all_goals (first|exact aE hk|exact key (z:=none) (w:=none) (by simp) rfl rfl (fun h=>aE h))
    |_=>exact aE hk
   |string a=>
    cases b with
    |string b=>
     cases op
     case add=>
      have hk:cF (if a.size+b.size<=2^62 then some (a++b)else none) (fun r=>K (.v (.string r)))=some r:=hk;simp only[cD,zY2]at hk;obtain⟨q,d,hk⟩:=hk;split at d
      .rename_i h0
       cases d;exact⟨_,_,_,rfl,rfl,by simp only[Sim.binS];rw[aE3 h0],hk⟩
      .cases d
     all_goals first|exact aE hk|exact⟨_,_,_,rfl,rfl,rfl,hk⟩
    |_=>exact aE hk
   |_=>exact aE hk
  |_=>exact aE hk
 |_=>exact aE hk
def wD1 {op:BinOp} (f:dK C n h lim s) (g:LR (RV C) xs ys) (hk:fB (.bin op) xs h n K=some r):gR C n h lim s (.bin op) ys K r:=by
 rcases xs with _|⟨x,_|⟨i,_|⟨x2,t⟩⟩⟩
 exact aE hk;exact aE hk;obtain⟨j,_,rfl,h1,h2⟩:=g.inv_cons;obtain⟨k,_,rfl,d,e⟩:=h2.inv_cons;rw[e.inv_nil];obtain⟨a,b,c,rfl,rfl,hb,hk⟩:=Zg (K:=fun v=>K v h n) hk;rw[iE h1,iE d];exact bW f (by simp[doOp,hb]) (.cl (.v c)) hk;exact aE hk
def wE1 {neg:Bool} (e:dK C n h lim s) (f:LR (RV C) xs ys) (hk:fB (.eqB neg) xs h n K=some r):gR C n h lim s (.eqB neg) ys K r:=by
 rcases xs with _|⟨x,_|⟨i,_|⟨x2,t⟩⟩⟩
 exact aE hk;exact aE hk;obtain⟨g,_,rfl,h1,h2⟩:=f.inv_cons;obtain⟨j,_,rfl,c,d⟩:=h2.inv_cons;rw[d.inv_nil];cases x with
 |v xv=>
  cases xv with
  |bool a=>
   cases i with
   |v iv=>
    cases iv with
    |bool b=>
     rw[iE h1,iE c];exact bW e rfl (.cl (.v _)) hk
    |_=>exact aE hk
   |_=>exact aE hk
  |_=>cases i with
   |v iv=>cases iv<;>exact aE hk
   |_=>exact aE hk
 |_=>cases i with
  |v iv=>cases iv<;>exact aE hk
  |_=>exact aE hk
 exact aE hk
def Iw:∀(ks:aA CK) (as i:aA PV) (K:Bool->aB R) (r:R) (c d:aA AV),lM1 ks as i K=some r->LR (RV C) as c->LR (RV C) i d->
  ∃b,Sim.cellsEq ks c d=some b/\K b=some r/\c.length=ks.length/\d.length=ks.length
 |[],[],[],K,r,c,d,h,ha,hb=>by
  rw[ha.inv_nil,hb.inv_nil]
  exact⟨true,rfl,h,rfl,rfl⟩
 |k::ks,a::as,b::i,K,r,c,d,h,ha,hb=>by
  obtain⟨y,ys,rfl,h1,h2⟩:=ha.inv_cons
  obtain⟨z,zs,rfl,l,m⟩:=hb.inv_cons
  simp only[lM1]at h
  obtain⟨t,p,f,s,u⟩:=Iw ks as i _ r ys zs h h2 m
  have fin:∀q:Bool,Sim.cellEq k y z=some q->K (q&&t)=some r->∃b,Sim.cellsEq (k::ks) (y::ys) (z::zs)=some b/\K b=some r/\(y::ys).length=(k::ks).length/\(z::zs).length=(k::ks).length:=by
   intro q n hK;refine⟨q&&t,?_,hK,by simp[s],by simp[u]⟩;simp only[Sim.cellsEq,n];cases q;rfl;simpa using p
  split at f;rename_i j x o g;rw[Kw]at f;by_cases e:j=o;rw[bE3 e,aL3]at f;rw[iE h1,iE l]at fin ⊢;exact fin (x==g) (by simp[Sim.cellEq,e]) f
  grind
  rename_i x g;rw[iE h1,iE l]at fin ⊢;exact fin (x==g) rfl f;rename_i x g;rw[iE h1,iE l]at fin ⊢;exact fin (x==g) rfl f;exact aE f
 |[],_::_,_,_,_,_,_,h,_,_=>aE h
 |[],[],_::_,_,_,_,_,h,_,_=>aE h
 |_::_,[],_,_,_,_,_,h,_,_=>aE h
 |_::_,_::_,[],_,_,_,_,h,_,_=>aE h
def wF1 {neg:Bool} {ks:aA CK} (f:dK C n h lim s) (j:LR (RV C) xs ys) (hk:fB (.eqA neg ks) xs h n K=some r):gR C n h lim s (.eqA neg ks) ys K r:=by
 rcases xs with _|⟨x,_|⟨i,_|⟨x2,t⟩⟩⟩
 exact aE hk;exact aE hk;obtain⟨p,_,rfl,h1,h2⟩:=j.inv_cons;obtain⟨q,_,rfl,d,e⟩:=h2.inv_cons;rw[e.inv_nil];cases x with
 |agg as=>
  cases i with
  |agg bs=>
   obtain⟨a,rfl,g⟩:=pY h1;obtain⟨c,rfl,hb⟩:=pY d;obtain⟨b,k,l,m,o⟩:=Iw ks as bs _ r a c hk g hb;refine bW f ?_ (.cl (.v _)) l;simp only[doOp];rw[aE3 ⟨m,o⟩,k]
  |_=>exact aE hk
 |_=>cases i<;>exact aE hk
 exact aE hk
def aM2 {op:UnOp} (a:dK C n h lim s) (b:LR (RV C) xs ys) (hk:fB (.un op) xs h n K=some r):gR C n h lim s (.un op) ys K r:=by
 rcases xs with _|⟨x,_|⟨x2,t⟩⟩
 exact aE hk;obtain⟨y,_,rfl,h1,h2⟩:=b.inv_cons;rw[h2.inv_nil];cases x with
 |v xv=>
  rw[iE h1];cases op<;>cases xv<;>first|exact aE hk|exact bW a rfl (.cl (.v _)) hk
 |_=>cases op<;>exact aE hk
 exact aE hk
def eF1 {k:IntKind} (a:dK C n h lim s) (b:LR (RV C) xs ys) (hk:fB (.convI k) xs h n K=some r):gR C n h lim s (.convI k) ys K r:=by
 rcases xs with _|⟨x,_|⟨x2,t⟩⟩
 exact aE hk;obtain⟨y,_,rfl,h1,h2⟩:=b.inv_cons;rw[h2.inv_nil];cases x with
 |v xv=>
  rw[iE h1];cases xv<;>first|exact aE hk|exact bW a rfl (.cl (.v _)) hk
 |_=>exact aE hk
 exact aE hk
def Pa (b:ByteArray):RR (byteRows b) (Sim.byteRows b):=by
 unfold byteRows Sim.byteRows
 induction b.data.toList with
 |nil=>exact .nil
 |cons a as ih=>exact .cons (.cons (.v _) .nil) ih
def wG1 {t:TypeId} (a:dK C n h lim s) (c:LR (RV C) xs ys) (hk:fB (.s2b t) xs h n K=some r):gR C n h lim s (.s2b t) ys K r:=by
 rcases xs with _|⟨x,_|⟨x2,t⟩⟩
 exact aE hk;obtain⟨y,_,rfl,h1,h2⟩:=c.inv_cons;rw[h2.inv_nil];cases x with
 |v xv=>
  rw[iE h1];cases xv with
  |string b=>exact bW a rfl (.cl (Pa b).is) hk
  |_=>exact aE hk
 |_=>exact aE hk
 exact aE hk
def lT1 {f:Fn} {m:Nat} (g:dK C n h lim s) (e:LR (RV C) xs ys) (hk:fB (.mkfn f m) xs h n K=some r):gR C n h lim s (.mkfn f m) ys K r:=by
 cases f with
 |func f=>
  have hk:tD m xs (fun a=>jT m xs fun b=>K (.fn f a b) h n)=some r:=by
   rcases xs with _|⟨a,_|⟨b,_|⟨c,t⟩⟩⟩<;>exact hk
  obtain⟨_,i⟩:=rL _ _ _ _ hk;obtain⟨_,j⟩:=fP _ _ _ _ i;have d:=e.take m;have hb:=e.drop m;refine bW g ?_ (.fn d.1 hb.1 d.2 hb.2) j;rcases ys with _|⟨a,_|⟨b,_|⟨c,t⟩⟩⟩<;>rfl
 |_=>rcases xs with _|⟨a,_|⟨b,_|⟨c,t⟩⟩⟩<;>exact aE hk
def eG1 (a:dK C n h lim s) (c:LR (RV C) xs ys) (hk:fB .mkmap xs h n K=some r):gR C n h lim s .mkmap ys K r:=by
 rcases xs with _|⟨x,t⟩
 have hk:K (.map n) ((n,.mp [])::h) (n+1)=some r:=hk;rw[c.inv_nil];have b:=mM a (.atp s.n 0 0 1);obtain⟨d,f,g⟩:=rM a (po:=.mp []) (ao:=.map []) (ver:=0) (e:=0) (len:=1) ⟨a.lim,by omega,[],by rw[fM,aE3 rfl],rfl,fun j x y h=>by simp at h⟩;exact⟨_,_,_,_,{v:=.map s.n,new:=some (.map [])},hk,rfl,.map (oU C n _),d,b,by omega,f,fun _=>g⟩;exact aE hk
def lU1 {ty:TypeId} {e b:Nat} {zero:aA Value} (d:dK C n h lim s) (o:LR (RV C) xs ys) (hk:fB (.mksl ty e b zero) xs h n K=some r):gR C n h lim s (.mksl ty e b zero) ys K r:=by
 rcases xs with _|⟨x,_|⟨i,_|⟨x2,t⟩⟩⟩
 exact aE hk;exact aE hk;obtain⟨w,_,rfl,h1,h2⟩:=o.inv_cons;obtain⟨y,_,rfl,k,m⟩:=h2.inv_cons;rw[m.inv_nil];cases x with
 |v xv=>
  cases xv with
  |int k1 l=>
   cases i with
   |v iv=>
    cases iv with
    |int k2 c=>
     rw[iE h1,iE k];have hk:(bif gT ty then none else xF (zero.map .v) (fun z=>cF (tG l c z) fun rows=>K (.own n) ((n,.lst ty e true rows)::h) (n+1)))=some r:=hk;cases hfx:gT ty with
     |true=>rw[hfx]at hk;exact aE hk
     |false=>
     rw[hfx,aV3]at hk;have j:Ip ty=ty:=by simp[Ip,hfx]
     simp only[uE,cD,zY2,tG]at hk;obtain⟨rows,g,hk⟩:=hk;split at g;rename_i h0;cases g;have f:=mM d (.atp s.n 0 e l.toNat);have a:l.toNat<=c.toNat:=by omega
     obtain⟨p,q,u⟩:=rM d (po:=.lst ty e true (List.replicate l.toNat (zero.map .v))) (ao:=.arr false ty e 0 (List.replicate c.toNat (Sim.zeroRow zero))) (ver:=0) (e:=e) (len:=l.toNat)
      ⟨d.lim,by omega,rfl,by simp,_,by rw[fM,aE3 rfl,j],by
       rw[List.length_replicate,List.take_replicate,cI3 a];exact RR.replicate (LR.zeroP zero) _,⟨by simpa using a,.zero zero⟩,fun h=>by cases h⟩
     refine⟨_,_,_,_,{v:=.sl e s.n 0 0 l.toNat none,new:=some (.arr false ty e 0 (List.replicate c.toNat (Sim.zeroRow zero)))},hk,?_,.own (oU C n _),p,f,by omega,q,fun _=>u⟩;simp only[doOp,Sim.intOf];rw[aE3 h0];cases g
    |_=>exact aE hk
   |_=>exact aE hk
  |_=>cases i with
   |v iv=>cases iv<;>exact aE hk
   |_=>exact aE hk
 |_=>cases i with
  |v iv=>cases iv<;>exact aE hk
  |_=>exact aE hk
 exact aE hk
end
end Go.P
namespace Go.P
open Go.Sim (AV AO Hp gN upd St IC IX Ex gC CK Wf Out doOp)
section
variable {R:Type} {C:Cx} {n:Nat} {h:aY} {lim:Nat} {s:Hp} {k:gC} {xs:List PV} {ys:List AV} {K:PV->aY->Nat->Option R} {r:R}
def Ky {lo hi:Bool} {len:Nat} {c:aA PV} {K:Int->Int->aB R} {a:aA AV} (b:LR (RV C) c a) (hk:Bw lo hi len c K=some r):∃l q,Sim.bounds lo hi len a=some (l,q)/\K l q=some r:=by
 unfold Bw at hk;split at hk;rw[b.inv_nil];exact⟨_,_,rfl,hk⟩;obtain⟨y,_,rfl,h1,h2⟩:=b.inv_cons;rw[h2.inv_nil,iE h1];exact⟨_,_,rfl,hk⟩;obtain⟨y,_,rfl,h1,h2⟩:=b.inv_cons;rw[h2.inv_nil,iE h1];exact⟨_,_,rfl,hk⟩;obtain⟨y,_,rfl,h1,h2⟩:=b.inv_cons;obtain⟨f,_,rfl,d,e⟩:=h2.inv_cons;rw[e.inv_nil,iE h1,iE d];exact⟨_,_,rfl,hk⟩;exact aE hk
def wH1 {e:Nat} {lo hi mx:Bool} (k:dK C n h lim s) (o:LR (RV C) xs ys) (hk:fB (.slc e lo hi mx) xs h n K=some r):gR C n h lim s (.slc e lo hi mx) ys K r:=by
 rcases xs with _|⟨x,bs⟩
 exact aE hk;obtain⟨y,a,rfl,h1,h2⟩:=o.inv_cons
 have hk:(bif mx then none else match(generalizing:=false) x with
  |.is e' rows=>bif Nat.beq e' e then Bw lo hi rows.length bs (fun l r=>cF (qF rows l r) fun rows=>K (.is e rows) h n)else none
  |_=>none)=some r:=by
  rcases bs with _|⟨b,_|⟨c,t⟩⟩<;>exact hk
 cases mx with
 |true=>exact aE hk
 |false=>
  rw[aV3]at hk;cases x with
  |is e' rows=>
   simp only[bR]at hk;by_cases m:e'=e;subst m;rw[bE3 rfl,aL3]at hk;obtain⟨l,q,hb,hk⟩:=Ky h2 hk;simp only[cD,zY2,qF]at hk;obtain⟨j,f,hk⟩:=hk;split at f;rename_i h0;cases f;rcases wB h1 with⟨rows',rfl,hr⟩|⟨rfl,hy⟩
   have hlen:=hr.1;refine bW k ?_ (.cl ((hr.drop l.toNat).take (q.toNat-l.toNat)).is) hk;have d:Sim.bounds lo hi rows'.length a=some (l,q):=by rw[<-hlen];exact hb
   have:Sim.sliceOp (Sim.look s.h) e' lo hi false (.is e' rows'::a)=some (.is e' ((rows'.drop l.toNat).take (q.toNat-l.toNat))):=by
    simp only[Sim.sliceOp];simp only[aK3,bI3,d];rw[aE3 ⟨by trivial,h0.1,h0.2.1,by rw[<-hlen];exact h0.2.2⟩]
   rcases a with _|⟨b,_|⟨c,t⟩⟩<;>simp only[doOp,this,aU3];have g:l=0:=by simp at h0;omega
   have i:q=0:=by simp at h0;omega
   subst g;subst i;have d:Sim.bounds lo hi 0 a=some (0,0):=hb
   have:Sim.sliceOp (Sim.look s.h) e' lo hi false (y::a)=some y:=by
    subst hy;simp[Sim.sliceOp,d]
   refine bW (y:=y) k ?_ ?_ hk;rcases a with _|⟨b,_|⟨c,t⟩⟩<;>simp only[doOp,this,aU3]
   grind
   cases f
   grind
  |_=>exact aE hk
def Ix {k:CK} {a b:PV} {a' b':AV} (c:RC false a a') (hb:RC false b b') {q:Bool} (h:xH k a b=some q):Sim.cellEq k a' b'=some q:=by
 unfold xH at h;split at h;cases c;cases hb;exact h;cases c;cases hb;exact h;cases c;cases hb;exact h;cases h
def wD:∀{ks:aA CK} {as e:aA PV} {c d:aA AV},LR (RC false) as c->LR (RC false) e d->∀{q:Bool},oQ ks as e=some q->Sim.cellsEq ks c d=some q
 |[],[],[],c,d,ha,hb,q,h=>by rw[ha.inv_nil,hb.inv_nil];exact h
 |k::ks,a::as,b::e,c,d,ha,hb,q,h=>by
  obtain⟨y,ys,rfl,h1,h2⟩:=ha.inv_cons
  obtain⟨z,zs,rfl,f,g⟩:=hb.inv_cons
  simp only[oQ]at h
  simp only[Sim.cellsEq]
  split at h
  rename_i he;rw[Ix h1 f he];exact wD h2 g h
  rename_i he;rw[Ix h1 f he];exact h
  cases h
 |[],_::_,_,_,_,_,_,_,h=>by cases h
 |[],[],_::_,_,_,_,_,_,h=>by cases h
 |_::_,[],_,_,_,_,_,_,h=>by cases h
 |_::_,_::_,[],_,_,_,_,_,h=>by cases h
def Sy {p:Bool} {cs:aA PV} {y:AV} (h:RC p (.agg cs) y):∃cs',y=.agg cs'/\LR (RC false) cs cs':=by
 cases h with|agg a b=>exact⟨_,rfl,a,b⟩
def Pb {agg:Bool} {ks:aA CK} {a b:PV} {a' b':AV} (c:RC false a a') (hb:RC false b b') {q:Bool} (h:zI agg ks a b=some q):Sim.keyEq agg ks a' b'=some q:=by
 unfold zI at h;unfold Sim.keyEq;cases agg with
 |true=>
  simp only[aZ3]at h ⊢;split at h;obtain⟨x,rfl,h1⟩:=Sy c;obtain⟨y,rfl,h2⟩:=Sy hb;simp only;split at h;rename_i hc;rw[aE3 ⟨by rw[<-h1.1];exact hc.1,by rw[<-h2.1];exact hc.2⟩];exact wD h1 h2 h;cases h;cases h
 |false=>
  simp only[aK3,bI3]at h ⊢;exact wD (.cons c .nil) (.cons hb .nil) h
def ER.nil:ER [] []:=⟨rfl,fun j x y h=>by simp at h⟩
def ER.inv_cons {x:PV×PV} {es:aA (PV×PV)} {es':aA (AV×AV)} (h:ER (x::es) es'):∃y t,es'=y::t/\RC false x.1 y.1/\RC false x.2 y.2/\ER es t:=by
 cases es' with
 |nil=>have:=h.1;simp at this
 |cons y t=>exact⟨y,t,rfl,(h.2 0 x y rfl rfl).1,(h.2 0 x y rfl rfl).2,by have:=h.1;simpa using this,fun j a b c hb=>h.2 (j+1) a b (by simpa using c) (by simpa using hb)⟩
def Bz {agg:Bool} {ks:aA CK} {k:PV} {k':AV} (hk:RC false k k'):∀{es:aA (PV×PV)} {es':aA (AV×AV)} {i:Nat} {o:aB (Nat×PV)},ER es es'->xI agg ks k es i=some o->
  ∃o',Sim.findKey agg ks k' es' i=some o'/\((o=none/\o'=none)\/∃j x y,o=some (j,x)/\o'=some (j,y)/\RC false x y)
 |[],es',i,o,he,h=>by
  have:es'=[]:=by have:=he.1;simpa using this.symm
  subst this
  simp only[xI,aF3]at h
  exact⟨none,rfl,.inl ⟨h.symm,rfl⟩⟩
 |(a,x)::es,es',i,o,he,h=>by
  obtain⟨⟨b,y⟩,t,rfl,h1,h2,d⟩:=he.inv_cons
  simp only[xI]at h
  simp only[Sim.findKey]
  split at h
  rename_i c
  rw[Pb hk h1 c]
  cases h
  exact⟨_,rfl,.inr ⟨i,x,y,rfl,rfl,h2⟩⟩
  rename_i c
  rw[Pb hk h1 c]
  exact Bz hk d h
  cases h
def qK {agg:Bool} {ks:aA CK} {k:PV} {k':AV} (hk:RC false k k') (h:zJ agg ks k=true):Sim.keyOK agg ks k'=true:=by
 unfold zJ at h;split at h;obtain⟨cs',rfl,hl⟩:=Sy hk;simp only[aA3,cK3]at h;simp[Sim.keyOK,<-hl.1,h.2];cases hk;simp only[aT3]at h;subst h;rfl;cases h
def zR {x:PV} {y:AV} (h:RV C x y):∀{d:Nat},dY d x=true->RC false x y:=by
 induction h with
 |cl h=>intro d _;exact h
 |fn h1 h2 v1 v2 i1 i2=>
  intro d hd;cases d with
  |zero=>simp[dY]at hd
  |succ d=>
   simp only[dY,aA3,aD3]at hd;exact .fn h1 h2 (fun j x y a b=>i1 j x y a b (hd.1 x (aJ3 a))) (fun j x y a b=>i2 j x y a b (hd.2 x (aJ3 a)))
 |agg hl hc ih=>
  intro d hd;cases d with
  |zero=>simp[dY]at hd
  |succ d=>
   simp only[dY,aD3]at hd;exact .agg hl (fun j x y a b=>ih j x y a b (hd x (aJ3 a)))
 |tup hl hc ih=>
  intro d hd;cases d with
  |zero=>simp[dY]at hd
  |succ d=>
   simp only[dY,aD3]at hd;exact .tup hl (fun j x y a b=>ih j x y a b (hd x (aJ3 a)))
 |_=>intro d hd;cases d<;>simp[dY]at hd
def Zh {agg ok:Bool} {ks:aA CK} {zero:AV} (g:dK C n h lim s) (D:LR (RV C) xs ys) (hk:fB (.lookup agg ks zero ok) xs h n K=some r):gR C n h lim s (.lookup agg ks zero ok) ys K r:=by
 rcases xs with _|⟨m,_|⟨k,_|⟨x2,t⟩⟩⟩
 exact aE hk;exact aE hk;obtain⟨w,_,rfl,h1,h2⟩:=D.inv_cons;obtain⟨E,_,rfl,A,B⟩:=h2.inv_cons;rw[B.inv_nil];cases hz:zero with
 |v z=>
  subst hz
  have key:∀(es:aA (PV×PV)) (es':aA (AV×AV)),ER es es'->Sim.entsOf (Sim.look s.h) w=some es'->
    (bif dY 2 k then(bif ok then cF (xJ agg ks (.v z) k es) (fun r=>K (.tup [r.1,.v (.bool r.2)]) h n)else cF (vY agg ks (.v z) k es) fun r=>K r h n)else none)=some r->gR C n h lim s (.lookup agg ks (.v z) ok) [w,E] K r:=by
   intro es es' he f hk;cases hcl:dY 2 k with
   |false=>rw[hcl]at hk;exact aE hk
   |true=>
   rw[hcl,aL3]at hk;have b:=zR A hcl;cases ok with
   |true=>
    simp only[aL3,cD,zY2,xJ]at hk;obtain⟨q,d,hk⟩:=hk;split at d;rename_i c;simp only[aB3]at d;obtain⟨o,p,rfl⟩:=d;obtain⟨o',i,u⟩:=Bz b he p;rcases u with⟨rfl,rfl⟩|⟨j,x,y,rfl,rfl,hxy⟩
    refine bW g (y:=.tup [.v z,.v (.bool false)]) ?_ ?_ hk;simp[doOp,qK b c,f,i];exact .tup rfl (LR.cons (.cl (.v z)) (.cons (.cl (.v _)) .nil)).2;refine bW g (y:=.tup [y,.v (.bool true)]) ?_ ?_ hk;simp[doOp,qK b c,f,i];exact .tup rfl (LR.cons (.cl hxy) (.cons (.cl (.v _)) .nil)).2;cases d
   |false=>
    simp only[aV3,cD,zY2,vY]at hk;obtain⟨q,d,hk⟩:=hk;split at d;rename_i c;simp only[aB3]at d;obtain⟨o,p,rfl⟩:=d;obtain⟨o',i,u⟩:=Bz b he p;rcases u with⟨rfl,rfl⟩|⟨j,x,y,rfl,rfl,hxy⟩
    refine bW g (y:=.v z) ?_ (.cl (.v z)) hk;simp[doOp,qK b c,f,i];refine bW g (y:=y) ?_ (.cl hxy) hk;simp[doOp,qK b c,f,i];cases d
  unfold fB at hk;simp only at hk;cases m with
  |im es=>
   obtain⟨es',rfl,he⟩:=Vw h1;exact key es es' he rfl hk
  |map j=>
   simp only[gV,zY2]at hk;obtain⟨ob,hg,hk⟩:=hk;cases ob with
   |mp es=>
    obtain⟨id,ver,e,len,l,rfl⟩:=Ew h1;obtain⟨_,es',f,he⟩:=Vx g hg l;exact key es es' he.er (by simp[Sim.entsOf,f]) hk
   |_=>exact aE hk
  |zm es=>
   rcases tI1 h1 with⟨id,es',rfl,l,he⟩|⟨rfl,rfl⟩
   exact key es es' he.er (by simp[Sim.entsOf,(g.hr.zr id _ l).1]) hk;exact key [] [] ⟨rfl,fun j x y a=>by simp at a⟩ rfl hk
  |_=>exact aE hk
 |_=>subst hz;exact aE hk
 exact aE hk
def tK1 {x:PV} {y:AV} (h:RV C x y) (hp:Sr x=true):RK x y:=by
 cases x with
 |agg cs=>
  obtain⟨cs',rfl,hl⟩:=pY h;exact .inr ⟨cs,cs',rfl,rfl,hl.plain hp⟩
 |_=>exact .inl (h.plain hp)
def eH1 {agg:Bool} {ks:aA CK} (D:dK C n h lim s) (P:LR (RV C) xs ys) (hk:fB (.mapup agg ks) xs h n K=some r):gR C n h lim s (.mapup agg ks) ys K r:=by
 rcases xs with _|⟨m,_|⟨k,_|⟨x,_|⟨x2,t⟩⟩⟩⟩
 exact aE hk;exact aE hk;exact aE hk;obtain⟨U,_,rfl,h1,h2⟩:=P.inv_cons;obtain⟨w,_,rfl,H,J⟩:=h2.inv_cons;obtain⟨y,_,rfl,L,M⟩:=J.inv_cons;rw[M.inv_nil];cases m with
 |map j=>
  have hk:hK h j (fun ob=>match ob with
   |.mp es=>bif Sr k&&Sr x then cF (En agg ks k x es) fun es=>hZ h j (.mp es) fun h=>K .undef h n else none
   |_=>none)=some r:=hk
  simp only[gV,zY2]at hk;obtain⟨ob,hg,hk⟩:=hk;cases ob with
  |mp es=>
   by_cases g:(Sr k&&Sr x)=true;simp only[g,aL3,cD,zY2,En]at hk;simp only[aA3]at g;obtain⟨d,hp,hk⟩:=hk;have G:=eF _ _ _ _ _ hk;obtain⟨id,ver,e,len,z,rfl⟩:=Ew h1;obtain⟨f,es',B,he⟩:=Vx D hg z;have hid:=(D.hr.lt (by rw[hg];simp) z).2;have F:=tK1 H g.1;have R:=tK1 L g.2;have q:=F.rc;split at hp;rename_i u;simp only[aB3]at hp;obtain⟨o,O,rfl⟩:=hp;obtain⟨o',q1,q2⟩:=Bz q he.er O
   have fin:∀(d:aA (PV×PV)) (c:aA (AV×AV)),EM d c->K .undef (dC h j (.mp d)) n=some r->doOp (Sim.look s.h) lim s.n (.mapup agg ks) [.map id,w,y]=some {v:=.undef,up:=some (id,.map c)}->gR C n h lim s (.mapup agg ks) [.map id,w,y] K r:=by
    intro d c E A hd;obtain⟨S,T⟩:=wA D (po':=.mp d) (ao:=.map c) hg z ⟨f,hid,c,by rw[Sim.look_upd];simp[B],E⟩ rfl;exact⟨_,_,_,_,_,A,hd,.undef,S,.refl _,aC3 _,T,fun N=>by cases N⟩
   rcases q2 with⟨rfl,rfl⟩|⟨i,x0,y0,rfl,rfl,hxy⟩
   refine fin _ (es'++[(w,y)]) ⟨by simp[he.1],fun i a b p hb=>?_⟩ G ?_;rw[cG3]at p hb;rw[<-he.1]at hb;split at p;rename_i hi;rw[aE3 hi]at hb;exact he.2 i a b p hb
   grind
   simp only[doOp,B];rw[aE3 ⟨f,qK q u⟩,q1];refine fin _ (es'.set i (w,y)) ⟨by simp[he.1],fun l a b p hb=>?_⟩ G ?_;rw[aX3]at p hb;split at p
   grind
   rename_i hi;rw[aG3 hi]at hb;exact he.2 l a b p hb;simp only[doOp,B];rw[aE3 ⟨f,qK q u⟩,q1];cases hp
   grind
  |_=>exact aE hk
 |_=>exact aE hk
 exact aE hk
def wI1 {kd:Nat} (a:dK C n h lim s) (i:LR (RV C) xs ys) (hk:fB (.len kd) xs h n K=some r):gR C n h lim s (.len kd) ys K r:=by
 rcases xs with _|⟨x,_|⟨x2,t⟩⟩
 exact aE hk;obtain⟨y,_,rfl,h1,h2⟩:=i.inv_cons;rw[h2.inv_nil];unfold fB at hk;simp only[bR]at hk;split at hk;rename_i e rows;by_cases c:kd=0;subst c;simp only[cA3,aL3,cD,zX2]at hk;rcases Vv h1 with⟨rows',rfl,hr⟩|⟨rfl,rfl|rfl⟩
 exact bW a (by simp[doOp,<-hr.1]) (.cl (.v _)) hk;exact bW a rfl (.cl (.v _)) hk;exact bW a rfl (.cl (.v _)) hk
 grind
 rename_i k;by_cases c:kd=0;subst c;simp only[cA3,aL3,gV,zY2]at hk;obtain⟨ob,hg,hk⟩:=hk;cases ob with
 |lst ty e g rows=>
  simp only[cD,zX2]at hk;rcases kD h1 with⟨id,ver,f,len,b,rfl⟩|⟨b,hy⟩
  obtain⟨_,_,hlen,_⟩:=lX a hg b;subst hlen;exact bW a rfl (.cl (.v _)) hk;have:=nR a hg b;subst this;rcases hy with rfl|rfl;exact bW a rfl (.cl (.v _)) hk;exact bW a rfl (.cl (.v _)) hk
 |lz ty e dp rows=>
  simp only[cD,zX2]at hk;rcases kD h1 with⟨id,ver,f,len,b,rfl⟩|⟨b,hy⟩
  obtain⟨_,_,_,hlen,_⟩:=Ez a hg b;subst hlen;exact bW a rfl (.cl (.v _)) hk;have:=Fa a hg b;subst this;rcases hy with rfl|rfl;exact bW a rfl (.cl (.v _)) hk;exact bW a rfl (.cl (.v _)) hk
 |fl fs=>
  rcases kD h1 with⟨id,ver,f,len,b,rfl⟩|⟨b,hy⟩
  obtain⟨_,_,hlen,_⟩:=eA1 a hg b;subst hlen;exact bW a rfl (.cl (.v _)) hk;exact(eB1 a hg b).elim
 |tr t rows hs=>
  obtain⟨ty,e2,ks⟩:=t;simp only[cD,zX2]at hk;rcases kD h1 with⟨id,ver,f,len,b,rfl⟩|⟨b,hy⟩
  obtain⟨_,_,_,hlen,_⟩:=lY a hg b;subst hlen;exact bW a rfl (.cl (.v _)) hk;have:=(tK a hg b).1;subst this;rcases hy with rfl|rfl;exact bW a rfl (.cl (.v _)) hk;exact bW a rfl (.cl (.v _)) hk
 |_=>exact aE hk
 grind
 rename_i d e rows;by_cases c:kd=0;subst c;simp only[cA3,aL3,cD,zX2]at hk;rcases Iv (Iu h1)with(⟨rows',rfl,hr⟩|⟨rfl,rfl⟩)|⟨d',id,ver,ty,els,_,rfl,_,_,_⟩
 exact bW a (by simp[doOp,<-hr.1]) (.cl (.v _)) hk;exact bW a rfl (.cl (.v _)) hk;exact bW a rfl (.cl (.v _)) hk
 grind
 by_cases c:kd=0;subst c;rw[iE h1];exact bW a rfl (.cl (.v _)) hk
 grind
 by_cases c:kd=1;subst c;rw[iE h1];exact bW a rfl (.cl (.v _)) hk
 grind
 exact aE hk;exact aE hk
def Pc {mx:Bool} {k:IntKind}:∀{xs:aA PV} {ys:aA AV} {a:Int} {K:Int->aB R},LR (RV C) xs ys->mnK mx k a xs K=some r->∃b,(if mx then Sim.foldMx k a ys else Sim.foldMn k a ys)=some b/\K b=some r
 |[],ys,a,K,hx,h=>by
  rw[hx.inv_nil]
  cases mx<;>exact⟨a,rfl,h⟩
 |x::xs,ys,a,K,hx,h=>by
  obtain⟨y,g,rfl,h1,h2⟩:=hx.inv_cons
  cases x with
  |v xv=>
   cases xv with
   |int k' b=>
    have h:(bif kEq k k' then mnK mx k (bif mx then(if b>a then b else a)else(if b<a then b else a)) xs K else none)=some r:=h
    rw[Kw]at h
    by_cases e:k=k'
    rw[bE3 e,aL3]at h
    obtain⟨c,d,f⟩:=Pc h2 h
    refine⟨c,?_,f⟩
    rw[iE h1]
    cases mx
    simpa[Sim.foldMn,e]using d
    simpa[Sim.foldMx,e]using d
    grind
   |_=>exact aE h
  |_=>exact aE h
def aN2 (f:dK C n h lim s) (g:LR (RV C) xs ys) (hk:fB .mx xs h n K=some r):gR C n h lim s .mx ys K r:=by
 rcases xs with _|⟨x,t⟩
 exact aE hk;obtain⟨y,d,rfl,h1,h2⟩:=g.inv_cons
 have hk:(match(generalizing:=false) x with
  |.v (.int k a)=>mnK true k a t (fun r=>K (.v (.int k r)) h n)
  |_=>none)=some r:=by rcases t with _|⟨b,_|⟨c,t⟩⟩<;>exact hk
 cases x with
 |v xv=>
  cases xv with
  |int k a=>
   obtain⟨b,e,i⟩:=Pc h2 hk;rw[iE h1];refine bW f ?_ (.cl (.v _)) i;simp only[aZ3]at e;rcases d with _|⟨b,_|⟨c,t⟩⟩<;>simp only[doOp,e,aU3]
  |_=>exact aE hk
 |_=>exact aE hk
def wJ1 {i:Nat} (b:dK C n h lim s) (d:LR (RV C) xs ys) (hk:fB (.ext i) xs h n K=some r):gR C n h lim s (.ext i) ys K r:=by
 rcases xs with _|⟨x,_|⟨x2,t⟩⟩
 exact aE hk;obtain⟨y,_,rfl,h1,h2⟩:=d.inv_cons;rw[h2.inv_nil];cases x with
 |tup vs=>
  have hk:jT i vs (fun vs=>match vs with
   |v::_=>K v h n
   |[]=>none)=some r:=hk
  obtain⟨e,a⟩:=fP _ _ _ _ hk;obtain⟨cs',rfl,hl⟩:=Ev h1;cases hd:vs.drop i with
  |nil=>rw[hd]at a;exact aE a
  |cons c t=>
   rw[hd]at a;obtain⟨y,hy,hv⟩:=hl.get (zO hd);exact bW b (by simp[doOp,hy]) hv a
 |_=>exact aE hk
 exact aE hk
end
end Go.P
namespace Go.P
open Go.Sim (AV AO Hp gN upd St IC IX Ex gC CK Wf Out doOp)
def xT {α:Type}:∀(l:aA α) (o:Nat) (cs:aA α),o+cs.length<=l.length->Sim.setL l o cs=l.take o++cs++l.drop (o+cs.length)
 |[],o,cs,h=>by
  have h1:cs=[]:=by
   cases cs with
   |nil=>rfl
   |cons a as=>simp at h
  subst h1;simp[Sim.setL]
 |a::l,0,[],h=>by simp[Sim.setL]
 |a::l,0,c::cs,h=>by
  simp only[Sim.setL,List.set_cons_zero];rw[qI,xT l 0 cs (by simp at h ⊢;omega)];simp
 |a::l,o+1,cs,h=>by
  rw[qI,xT l o cs (by simp at h ⊢;omega)];simp[Nat.add_right_comm]
def uJ (e:Nat):∀(m i:Nat) (cells xs:aA AV) (a:aA (aA AV)),cells.length=(i+m)*e->xs.length=m->a.length=m->
  (∀(j:Nat) (x:AV),xs[j]? =some x->∃cs,x.cells=some cs/\cs.length=e/\a[j]? =some cs)->
  Sim.fillParts cells ((List.range' i m).map fun i=>(i*e,e)) xs=some (cells.take (i*e)++a.flatten)
 |0,i,cells,xs,a,h1,h2,h3,h4=>by
  have g:xs=[]:=by simpa using h2
  have e2:a=[]:=by simpa using h3
  subst g;subst e2
  simp only[List.range'_zero,cX3,Sim.fillParts,List.flatten_nil,cR3]
  rw[bT3 (by rw[h1];simp)]
 |m+1,i,cells,xs,a,h1,h2,h3,h4=>by
  match xs,a,h2,h3 with
  |x::xs,cs0::a,h2,h3=>
   obtain⟨cs,k,d,f⟩:=h4 0 x rfl
   simp at f
   subst f
   simp only[List.range'_succ,bQ3,Sim.fillParts,k]
   have b:i*e+e<=cells.length:=by
    rw[h1];have:(i+1)*e<=(i+(m+1))*e:=bM3 _ (by omega);rw[cL3,Nat.one_mul]at this;exact this
   rw[aE3 ⟨d,b⟩];have hs:=xT cells (i*e) cs0 (by rw[d];exact b)
   have hlen:(Sim.setL cells (i*e) cs0).length=cells.length:=by
    rw[hs];simp[d];omega
   rw[uJ e m (i+1) _ xs a (by rw[hlen,h1];congr 1;omega) (by simpa using h2) (by simpa using h3) (fun j x h=>by
    obtain⟨c,q1,q2,q3⟩:=h4 (j+1) x (by simpa using h);exact⟨c,q1,q2,by simpa using q3⟩)]
   congr 1;rw[hs,dZ3,<-List.append_assoc];congr 1
   have hl:(cells.take (i*e)++cs0).length=(i+1)*e:=by
    simp[d,cL3];omega
   rw[List.take_append_of_le_length (by rw[hl];exact aC3 _),bT3 (by rw[hl];exact aC3 _)]
def Vy (e:Nat):∀(a:aA (aA AV)),(∀c∈a,c.length=e)->(List.range a.length).map (fun i=>(a.flatten.drop (i*e)).take e)=a
 |[],_=>rfl
 |c::a,h=>by
  have hc:=h c (by simp)
  have ih:=Vy e a (fun c hc=>h c (by simp[hc]))
  rw[bG3,List.range_succ_eq_map,bQ3,List.map_map]
  simp only[eA3,bZ3,dZ3]
  rw[List.take_append_of_le_length (by omega),bT3 (by omega)]
  congr 1
  refine Eq.trans (List.map_congr_left fun i _=>?_) ih
  simp only[Function.comp]
  rw[cN3,cS3,<-hc,<-dF3,List.drop_left]
def xU (l:aA AV):∀(m:aA Nat),(m.flatMap fun _=>l).length=m.length*l.length
 |[]=>by simp
 |a::m=>by
  rw[List.flatMap_cons,bP3,xU l m,bG3,cN3,cS3]
section
variable {R:Type} {C:Cx} {n:Nat} {h:aY} {lim:Nat} {s:Hp} {k:gC} {xs:List PV} {ys:List AV} {K:PV->aY->Nat->Option R} {r:R}
def eI1 (d1 a:Nat):d1<=(bif Nat.blt d1 a then a else d1)/\a<=(bif Nat.blt d1 a then a else d1):=by
 by_cases h:d1<a;have hb:Nat.blt d1 a=true:=by simpa using h
 rw[hb];simp only[aL3];omega;have hb:Nat.blt d1 a=false:=by cases hb:Nat.blt d1 a with|false=>rfl|true=>exact absurd (by simpa using hb) h
 rw[hb];simp only[aV3];omega
def eJ1 {x:PV} {y:AV} {d:Nat} {b:PV} (h:RV C x y) (hc:dP1 x=some (d,b)):RZ C.z d b y:=by
 have pl:∀{x:PV},RV C x y->gZ x=true->RC true x y:=fun a hp=>by
  have:=(LR.cons a .nil).plain (xs:=[_]) (by simpa using hp);exact this.head
 unfold dP1 at hc;split at hc;cases hc;exact Iu h;rename_i a;cases hp:gZ x with
 |true=>rw[hp]at hc;cases hc;exact RZ.of (pl h hp)
 |false=>rw[hp]at hc;cases hc
def Iy:∀{cs:aA PV} {cs':aA AV} {d:Nat} {ys:aA PV},LR (RV C) cs cs'->Ep cs=some (d,ys)->LR (RZ C.z d) ys cs'
 |[],cs',d,ys,h,hc=>by
  rw[h.inv_nil];cases hc;exact .nil
 |x::xs,cs',d,ys,h,hc=>by
  obtain⟨y,c,rfl,h1,h2⟩:=h.inv_cons
  unfold Ep at hc
  split at hc
  rename_i d1 e a xs' b e2
  cases hc
  have m:=eI1 d1 a
  exact .cons (RZ.up m.1 (eJ1 h1 b)) ((Iy h2 e2).mono fun _ _ h=>RZ.up m.2 h)
  cases hc
def aO2 {R:Type} (d:Nat) (K:Nat->aB R):fD d K=K d:=by
 unfold fD;split<;>rfl
def Az (e:Nat):∀(xs:aA PV) (K:Nat->aA (aA PV)->aB R) (r:R),Er e xs K=some r->∃dp rows,K dp rows=some r/\rows.length=xs.length/\
  ∀(j:Nat) (x:PV),xs[j]? =some x->∃cs,gO x=some cs/\∃d ys,Ep cs=some (d,ys)/\ys.length=e/\d<=dp/\rows[j]? =some ys
 |[],K,r,h=>⟨0,[],h,rfl,fun j x a=>by simp at a⟩
 |x::xs,K,r,h=>by
  simp only[Er,lL,aO2,zY2]at h
  obtain⟨cs,h1,h2⟩:=h
  split at h2
  rename_i d ys f
  cases hb:Nat.beq ys.length e with
  |false=>rw[hb]at h2;cases h2
  |true=>
   rw[hb,aL3]at h2
   obtain⟨dp,rows,g,i,k⟩:=Az e xs _ r h2
   have m:=eI1 d dp
   refine⟨_,_,g,by simp[i],fun j l a=>?_⟩
   cases j with
   |zero=>simp at a;subst a;exact⟨cs,h1,d,ys,f,aR3 hb,m.1,rfl⟩
   |succ j=>
    simp at a
    obtain⟨cs',q1,c,b,q2,q3,q4,q5⟩:=k j l a
    exact⟨cs',q1,c,b,q2,q3,bB3 q4 m.2,by simpa using q5⟩
  cases h2
def Sz {ty:TypeId} {e len:Nat} {zero:aA Value} {parts:aA Nat} (H:dK C n h lim s) (o:LR (RV C) xs ys) (hk:fB (.buildSl ty e len zero parts) xs h n K=some r):gR C n h lim s (.buildSl ty e len zero parts) ys K r:=by
 have hk:(bif Kr 0 parts&&(Nat.beq zero.length e&& !(gT ty))then(bif Nat.beq parts.length len then bif xs.all dQ1 then xK e xs fun rows=>bif Nat.beq rows.length len then K (.own n) ((n,.lst ty e false rows)::h) (n+1)else none else Er e xs fun dp rows=>bif Nat.beq rows.length len then K (.own n) ((n,.lz ty e dp rows)::h) (n+1)else none else none)else none)=some r:=by
  rcases xs with _|⟨a,_|⟨b,_|⟨c,t⟩⟩⟩<;>exact hk
 by_cases hc:(Kr 0 parts&&(Nat.beq zero.length e&& !(gT ty)))=true;rw[hc,aL3]at hk;simp only[aA3,bR,aH3]at hc hk;obtain⟨c1,c2,p⟩:=hc;have P:Ip ty=ty:=by simp only[aT3]at p;simp[Ip,p]
 have L:gT ty=false:=by simpa using p
 by_cases c3:parts.length=len;rw[bE3 c3,aL3]at hk
 have M:∃(po:dN) (rows:aA (aA PV)) (Q:PV->AV->Prop),K (.own n) ((n,po)::h) (n+1)=some r/\rows.length=len/\rows.length=xs.length/\
   (∀(j:Nat) (x:PV),xs[j]? =some x->∃cs,gO x=some cs/\∃r,rows[j]? =some r/\r.length=e/\∀cs',LR (RV C) cs cs'->LR Q r cs')/\
   ∀f:aA (aA AV),rows.length=f.length->(∀(i:Nat) (r:aA PV) (r':aA AV),rows[i]? =some r->f[i]? =some r'->LR Q r r')->
    fX (ext C n (.atp s.n 0 e len)) (Sim.look (.ob s.n (.arr false ty e 0 f)::s.h)) lim (s.n+1) po (.atp s.n 0 e len):=by
  cases hpl:xs.all dQ1 with
  |true=>
   rw[hpl,aL3]at hk;obtain⟨rows,m,E,F⟩:=xQ e xs _ r hk;by_cases c4:rows.length=len;rw[bE3 c4,aL3]at m;refine⟨_,rows,RC true,m,c4,E,fun j x o=>?_,fun f hl u=>?_⟩;obtain⟨cs,q1,q2,q3,q4⟩:=F j x o;exact⟨cs,q1,cs,q4,q2,fun cs' h=>h.plain q3⟩;exact⟨H.lim,by omega,rfl,c4.symm,f,by rw[fM,aE3 rfl,P],by rw[bT3 (by rw[hl];exact aC3 _)];exact⟨hl,u⟩,⟨by rw[hl];exact aC3 _,.exact (by rw[hl];exact aC3 _)⟩,fun _=>hl.symm⟩;rw[bC3 c4]at m;exact aE m
  |false=>
   rw[hpl,aV3]at hk;obtain⟨dp,rows,m,E,F⟩:=Az e xs _ r hk;by_cases c4:rows.length=len;rw[bE3 c4,aL3]at m;refine⟨_,rows,RZ C.z dp,m,c4,E,fun j x o=>?_,fun f hl u=>?_⟩;obtain⟨cs,q1,d,T,q2,q3,q4,q5⟩:=F j x o;exact⟨cs,q1,T,q5,q3,fun cs' h=>(Iy h q2).mono fun _ _ h=>RZ.up q4 h⟩;exact⟨H.lim,by omega,rfl,c4.symm,L,f,by rw[fM,aE3 rfl],hl,u⟩;rw[bC3 c4]at m;exact aE m
 obtain⟨po,rows,Q,m,c4,E,F,R⟩:=M;have hp:=zN 0 parts c1;rw[c3]at hp;subst hp
 have D:∀(j:Nat) (x:AV),ys[j]? =some x->∃cs,x.cells=some cs/\cs.length=e/\∃r,rows[j]? =some r/\LR Q r cs:=by
  intro j y hy;have A:j<xs.length:=by rw[o.1];exact(zZ2.1 hy).1
  obtain⟨cs,q1,r0,q2,q3,q4⟩:=F j xs[j] (by simp);obtain⟨cs',p1,p2⟩:=oT (o.2 j xs[j] y (by simp) hy) q1;have:=q4 cs' p2;exact⟨cs',p1,by rw[<-this.1];exact q3,r0,q2,this⟩
 have q:∃f:aA (aA AV),f.length=ys.length/\∀(j:Nat) (x:AV),ys[j]? =some x->∃cs,x.cells=some cs/\cs.length=e/\f[j]? =some cs/\∃r,rows[j]? =some r/\LR Q r cs:=by
  refine⟨ys.map fun y=>(y.cells).getD [],by simp,fun j y hy=>?_⟩;obtain⟨cs,p1,p2,p3⟩:=D j y hy;exact⟨cs,p1,p2,by simp[hy,p1],p3⟩
 obtain⟨f,G,S⟩:=q;have g:ys.length=len:=by rw[<-o.1,<-E,c4]
 have V:(Sim.zeroRow zero).length=e:=by simp[Sim.zeroRow,c2]
 have J:((List.range len).flatMap fun _=>Sim.zeroRow zero).length=len*e:=by
  rw[xU,V,List.length_range]
 have l:=uJ e len 0 ((List.range len).flatMap fun _=>Sim.zeroRow zero) ys f (by rw[J];simp) g (by rw[G,g]) (fun j x o=>by
  obtain⟨cs,p1,p2,p3,_⟩:=S j x o;exact⟨cs,p1,p2,p3⟩)
 simp only[eA3,List.take_zero,dX3]at l
 have w:∀c∈f,c.length=e:=by
  intro c hc;obtain⟨j,U⟩:=aS3.1 hc;have A:j<ys.length:=by rw[<-G];exact(zZ2.1 U).1
  obtain⟨cs,p1,p2,p3,_⟩:=S j ys[j] (by simp);rw[U]at p3;cases p3;exact p2
 have k:=Vy e f w;rw[G,g]at k
 have u:∀(j:Nat) (r0:aA PV) (r1:aA AV),rows[j]? =some r0->f[j]? =some r1->LR Q r0 r1:=by
  intro j r0 r1 O B;have A:j<ys.length:=by rw[<-G];exact(zZ2.1 B).1
  obtain⟨cs,p1,p2,p3,r2,p4,p5⟩:=S j ys[j] (by simp);rw[B]at p3;cases p3;rw[O]at p4;cases p4;exact p5
 have N:=mM H (.atp s.n 0 e len);obtain⟨W,X,Y⟩:=rM H (po:=po) (ao:=.arr false ty e 0 f) (ver:=0) (e:=e) (len:=len) (R f (by rw[c4,G,g]) u);refine⟨_,_,_,_,{v:=.sl e s.n 0 0 len none,new:=some (.arr false ty e 0 f)},m,?_,.own (oU C n _),W,N,by omega,X,fun _=>Y⟩
 have:doOp (Sim.look s.h) lim s.n (.buildSl ty e len zero (List.range' 0 len)) ys=(Sim.fillParts ((List.range len).flatMap fun _=>Sim.zeroRow zero) ((List.range' 0 len).map fun i=>(i*e,e)) ys).map fun cs=>
  {v:=.sl e s.n 0 0 len none,new:=some (.arr false ty e 0 ((List.range len).map fun i=>(cs.drop (i*e)).take e))}:=by
  rcases ys with _|⟨a,_|⟨b,_|⟨c,t⟩⟩⟩<;>rfl
 rw[this,l];simp only[aU3];rw[k];rw[bC3 c3]at hk;exact aE hk;simp only[dM3]at hc;rw[hc]at hk;exact aE hk
def Fg {i:Int}:∀{m:Nat} {K:Nat->aB R} {r:R},Om i m K=some r->∃j,j<m/\i=(j:Int)/\K j=some r
 |0,K,r,h=>by unfold Om at h;exact aE h
 |m+1,K,r,h=>by
  unfold Om at h
  rw[rI]at h
  split at h
  rename_i e;exact⟨m,by omega,by simpa using e,h⟩
  obtain⟨j,h1,h2,a⟩:=Fg h;exact⟨j,by omega,h2,a⟩
def lV1 {len esz:Nat} (l:dK C n h lim s) (m:LR (RV C) xs ys) (hk:fB (.iadA len esz) xs h n K=some r):gR C n h lim s (.iadA len esz) ys K r:=by
 rcases xs with _|⟨p,_|⟨i,_|⟨x2,t⟩⟩⟩
 exact aE hk;exact aE hk;obtain⟨u,_,rfl,h1,h2⟩:=m.inv_cons;obtain⟨w,_,rfl,d,f⟩:=h2.inv_cons;rw[f.inv_nil];unfold fB at hk;simp only at hk;split at hk;rename_i i;split at hk;rename_i k o;obtain⟨j,q,a,b⟩:=Fg hk;clear hk;subst a;rw[iE d];obtain⟨id,ver,e,c,g,rfl⟩:=nE h1;refine bW (v:=.ref k (o+j*esz)) (y:=.ptr id ver 0 (o+j*esz)) l ?_ (.ref g) b;simp only[doOp,Sim.intOf];rw[aE3 ⟨by omega,by omega⟩];simp;exact aE hk;exact aE hk;exact aE hk
def Pd (g:dK C n h lim s) (j:LR (RV C) xs ys) (hk:fB k xs h n K=some r):gR C n h lim s k ys K r:=by
 cases k with
 |mov=>exact vZ1 g j hk
 |nilc=>exact lR1 g j hk
 |box ty size=>exact wA1 g j hk
 |alloc ty zero=>exact dY1 g j hk
 |build zero parts=>exact dZ1 g j hk
 |buildSl ty e len zero parts=>exact Sz g j hk
 |loadS=>exact eC1 g j hk
 |loadA m=>exact eD1 g j hk
 |store m=>exact eE1 g j hk
 |fad off=>exact wB1 g j hk
 |iad e=>exact wC1 g j hk
 |iadA len esz=>exact lV1 g j hk
 |idxStr=>exact Zf g j hk
 |idxA len e agg=>exact lS1 g j hk
 |bin op=>exact wD1 g j hk
 |eqB neg=>exact wE1 g j hk
 |eqA neg ks=>exact wF1 g j hk
 |un op=>exact aM2 g j hk
 |convI k=>exact eF1 g j hk
 |s2b t=>exact wG1 g j hk
 |mkfn f m=>exact lT1 g j hk
 |mkmap=>exact eG1 g j hk
 |mksl ty e b zero=>exact lU1 g j hk
 |slc e lo hi mx=>exact wH1 g j hk
 |lookup agg ks zero ok=>exact Zh g j hk
 |mapup agg ks=>exact eH1 g j hk
 |len kd=>exact wI1 g j hk
 |mx=>exact aN2 g j hk
 |ext i=>exact wJ1 g j hk
 |_=>rcases xs with _|⟨a,_|⟨b,_|⟨c,_|⟨d,t⟩⟩⟩⟩<;>exact aE hk
end
end Go.P
namespace Go.P
open Go.Sim (AV AO Hp gN upd St IC IX Ex gC CK Wf Out doOp kG Foot foot exec runOps eU wanted put iC)
def jG:gC->Bool
 |.callF _|.callV=>true
 |_=>false
def lO (N:FuncId->Bool) (dr:Nat):gC->Nat
 |.len kd=>bif Nat.beq kd 2 then 1 else 0
 |.loadS|.loadA _|.lookup .. |.slc .. |.b2s=>1
 |.box .. |.alloc .. |.buildSl .. |.mkmap|.mksl .. =>2
 |.callF f=>if N f then(if dr=5 then 6 else 4)else 3
 |.callV=>if dr=4 then 4 else 3
 |.store _|.mapup .. |.append .. |.copy _|.clear .. =>5
 |_=>0
inductive Tr (T:kG) (N:FuncId->Bool) (dr lim:Nat):List Sim.Op1->St->List Foot->St->Prop
 |nil {σ:St}:Tr T N dr lim [] σ [] σ
 |skip {o:Sim.Op1} {os:List Sim.Op1} {σ τ:St} {fs:List Foot} (hw:wanted σ.t o.guard=false) (h:Tr T N dr lim os {t:=put σ.t o.dst .undef,s:=σ.s} fs τ):Tr T N dr lim (o::os) σ ({}::fs) τ
 |op {o:Sim.Op1} {os:List Sim.Op1} {σ τ:St} {fs:List Foot} {xs:List AV} {out:Out} (hw:wanted σ.t o.guard=true) (he:Sim.evs σ.t o.xs=some xs) (hc:jG o.k=false)
   (hd:doOp (Sim.look σ.s.h) lim σ.s.n o.k xs=some out) (h:Tr T N dr lim os {t:=put σ.t o.dst out.v,s:=out.apply σ.s} fs τ):
   Tr T N dr lim (o::os) σ ({foot T o.k xs with al:=List.range' σ.s.n ((out.apply σ.s).n-σ.s.n)}::fs) τ
 |call {o:Sim.Op1} {os:List Sim.Op1} {σ τ:St} {fs:List Foot} {xs:List AV} {v:AV} (hw:wanted σ.t o.guard=true) (he:Sim.evs σ.t o.xs=some xs) (hc:jG o.k=true) (hk:lO N dr o.k=3\/lO N dr o.k=4) (hf:foot T o.k xs={all:=1,x:=true})
   (hs:∃D,∀d,D<=d->∀m,Sim.step T (exec T d) lim o.k xs {h:=σ.s.h,n:=m}=some (v,{h:=σ.s.h,n:=m})) (h:Tr T N dr lim os {t:=put σ.t o.dst v,s:=σ.s} fs τ):
   Tr T N dr lim (o::os) σ ({all:=1,x:=true}::fs) τ
 |ncall {o:Sim.Op1} {os:List Sim.Op1} {σ τ:St} {fs:List Foot} {xs:List AV} {v:AV} {s':Hp} (hw:wanted σ.t o.guard=true) (he:Sim.evs σ.t o.xs=some xs) (hc:jG o.k=true) (hf:(foot T o.k xs).all=2\/dr=0) (hk:dr≠0->lO N dr o.k=4)
   (hs:∃D,∀d,D<=d->Sim.step T (exec T d) lim o.k xs σ.s=some (v,s')) (hn:σ.s.n<=s'.n) (h:Tr T N dr lim os {t:=put σ.t o.dst v,s:=s'} fs τ):
   Tr T N dr lim (o::os) σ ({foot T o.k xs with al:=List.range' σ.s.n (s'.n-σ.s.n)}::fs) τ
 |xcall {o:Sim.Op1} {os:List Sim.Op1} {σ τ:St} {fs:List Foot} {xs:List AV} {v:AV} {s':Hp} (hw:wanted σ.t o.guard=true) (he:Sim.evs σ.t o.xs=some xs) (hc:jG o.k=true) (hk:lO N dr o.k=6) (hf:(foot T o.k xs).all=3)
   (hs:∃D,∀d,D<=d->∀hid,Sim.callX true (Sim.step T (exec T d) lim o.k xs) hid xs σ.s=some (v,s',[])) (hn:σ.s.n<=s'.n) (h:Tr T N dr lim os {t:=put σ.t o.dst v,s:=s'} fs τ):
   Tr T N dr lim (o::os) σ ({al:=List.range' σ.s.n (s'.n-σ.s.n),all:=1,x:=true}::fs) τ
section
variable {T:kG} {N:FuncId->Bool} {dr lim:Nat}
def Tr.append {as a:aA Sim.Op1} {σ τ υ:St} {fs b:aA Foot} (h:Tr T N dr lim as σ fs τ) (k:Tr T N dr lim a τ b υ):Tr T N dr lim (as++a) σ (fs++b) υ:=by
 induction h with
 |nil=>exact k
 |skip hw h ih=>exact .skip hw (ih k)
 |op hw he hc hd h ih=>exact .op hw he hc hd (ih k)
 |call hw he hc hk hf hs h ih=>exact .call hw he hc hk hf hs (ih k)
 |ncall hw he hc hf hk hs hn h ih=>exact .ncall hw he hc hf hk hs hn (ih k)
 |xcall hw he hc hk hf hs hn h ih=>exact .xcall hw he hc hk hf hs hn (ih k)
def Vz {ex:Nat->Bool->IC->St->aB (Ex×St)} {k:gC} {xs:aA AV} {s:Hp} {out:Out} (hc:jG k=false) (hd:doOp (Sim.look s.h) lim s.n k xs=some out):Sim.step T ex lim k xs s=some (out.v,out.apply s):=by
 unfold Sim.step;split;simp[jG]at hc;simp[jG]at hc;rw[hd]
def Wa {k:gC} (h:lO N dr k=6):dr=5:=by
 cases k
 case callF f=>simp only[lO]at h;split at h<;>(try split at h)<;>first|assumption|omega
 case len kd=>simp only[lO]at h;cases hk:Nat.beq kd 2<;>rw[hk]at h<;>simp at h
 all_goals simp[lO]at h
 all_goals (split at h<;>omega)
def Tr.run (e:dr=0) {os:aA Sim.Op1} {σ τ:St} {fs:aA Foot} (h:Tr T N dr lim os σ fs τ):∃D,∀d,D<=d->runOps T (exec T d) lim os σ=some τ:=by
 induction h with
 |nil=>exact⟨0,fun d _=>rfl⟩
 |skip hw h ih=>
  obtain⟨D,a⟩:=ih;refine⟨D,fun d hd=>?_⟩;simp only[runOps,hw];exact a d hd
 |op hw he hc hd h ih=>
  obtain⟨D,a⟩:=ih;refine⟨D,fun d c=>?_⟩;simp only[runOps,hw,aZ3,he,Vz hc hd];exact a d c
 |@ncall o os σ τ fs xs v s' hw he hc hf hk hs hn h ih=>
  obtain⟨D,a⟩:=ih;obtain⟨D2,b⟩:=hs;refine⟨max D D2,fun d hd=>?_⟩;simp only[runOps,hw,aZ3,he,b d (by omega)];exact a d (by omega)
 |xcall hw he hc hk hf hs hn h ih=>exact absurd (Wa hk) (by omega)
 |@call o os σ τ fs xs v hw he hc hk hf hs h ih=>
  obtain⟨D,a⟩:=ih;obtain⟨D2,b⟩:=hs;refine⟨max D D2,fun d hd=>?_⟩;simp only[runOps,hw,aZ3,he];have:=b d (by omega) σ.s.n;rw[show({h:=σ.s.h,n:=σ.s.n}:Hp)=σ.s from rfl]at this;rw[this];exact a d (by omega)
def oV (c:Nat) (f:Foot):Prop:=
 f={}\/match c with
  |0=>f={}
  |1=>f.wr=[]/\f.al=[]/\f.all=0
  |2=>f.rd=[]/\f.wr=[]/\f.all=0
  |3=>f={all:=1,x:=true}
  |5=>f.all=0
  |6=>f.rd=[]/\f.wr=[]/\f.all=1/\f.x=true
  |_=>True
def gS (i j:Nat):Bool:=
 bif Nat.beq i 0 then !Nat.beq j 4 else bif Nat.beq j 0 then !Nat.beq i 4 else
  (Nat.ble i 3&&Nat.ble j 3&& !(Nat.beq i 3&&Nat.beq j 3)&& !(Nat.beq i 2&&(Nat.beq j 3||Nat.beq j 1)))||(Nat.beq i 5&&Nat.beq j 2)
def rO (i j:Nat):Bool:=(Nat.beq j 6&&(Nat.beq i 1||Nat.beq i 2))||(Nat.beq i 6&&Nat.beq j 2)
def mN (i j:Nat):Bool:=Nat.beq i 0||Nat.beq j 0||gS i j||rO i j
def Ta {i j:Nat} {f g:Foot} (hi:i<=5) (b:j<=5) (h:gS i j=true) (hf:oV i f) (hg:oV j g):Sim.compat0 f g=true:=by
 unfold oV at hf hg;have k:∀g:Foot,g.all<=1->Sim.compat0 {} g=true:=fun g hg=>by simp[Sim.compat0,hg]
 have d:∀f:Foot,f.all<=1->Sim.compat0 f {}=true:=fun f hf=>by simp[Sim.compat0,hf]
 have e:i≠4:=by rintro rfl;(match j,b,h with|0,_,h|1,_,h|2,_,h|3,_,h|4,_,h|5,_,h=>simp[gS]at h)
 have a:j≠4:=by rintro rfl;(match i,hi,h with|0,_,h|1,_,h|2,_,h|3,_,h|4,_,h|5,_,h=>simp[gS]at h)
 have a1:∀{c:Nat} {f:Foot},c<=5->c≠4->(f={}\/match c with
  |0=>f={}
  |1=>f.wr=[]/\f.al=[]/\f.all=0
  |2=>f.rd=[]/\f.wr=[]/\f.all=0
  |3=>f={all:=1,x:=true}
  |5=>f.all=0
  |6=>f.rd=[]/\f.wr=[]/\f.all=1/\f.x=true
  |_=>True)->f.all<=1:=by grind
 have b1:=a1 hi e hf;have b2:=a1 b a hg;rcases hf with rfl|hf;exact k g b2;rcases hg with rfl|hg;exact d f b1
 have fin:f.wr=[]->g.wr=[]->f.al=[]\/(g.rd=[])->f.all+g.all<=1->Sim.compat0 f g=true:=by
  intro q1 q2 q3 q4;rcases q3 with q3|q3<;>simp[Sim.compat0,q1,q2,q3,q4]
 match i,hi,e,h,hf with
 |0,_,_,_,hf=>rw[hf];exact k g b2
 |1,_,_,h,hf=>
  obtain⟨p1,p2,p3⟩:=hf
  match j,b,a,h,hg with
  |0,_,_,_,hg=>rw[hg];exact d f b1
  |1,_,_,_,hg=>exact fin p1 hg.1 (.inl p2) (by rw[p3,hg.2.2];simp)
  |2,_,_,_,hg=>exact fin p1 hg.2.1 (.inl p2) (by rw[p3,hg.2.2];simp)
  |3,_,_,_,hg=>exact fin p1 (by rw[hg]) (.inl p2) (by rw[p3,hg];simp)
  |4,_,h4,_,_=>exact absurd rfl h4
  |5,_,_,h,_=>simp[gS]at h
 |2,_,_,h,hf=>
  obtain⟨p1,p2,p3⟩:=hf
  match j,b,a,h,hg with
  |0,_,_,_,hg=>rw[hg];exact d f b1
  |1,_,_,h,_=>simp[gS]at h
  |2,_,_,_,hg=>exact fin p2 hg.2.1 (.inr hg.1) (by rw[p3,hg.2.2];simp)
  |3,_,_,h,_=>simp[gS]at h
  |4,_,h4,_,_=>exact absurd rfl h4
  |5,_,_,h,_=>simp[gS]at h
 |3,_,_,h,hf=>
  match j,b,a,h,hg with
  |0,_,_,_,hg=>rw[hg];exact d f b1
  |1,_,_,_,hg=>exact fin (by rw[hf]) hg.1 (.inl (by rw[hf])) (by rw[hf,hg.2.2];simp)
  |2,_,_,_,hg=>exact fin (by rw[hf]) hg.2.1 (.inl (by rw[hf])) (by rw[hf,hg.2.2];simp)
  |3,_,_,h,_=>simp[gS]at h
  |4,_,h4,_,_=>exact absurd rfl h4
  |5,_,_,h,_=>simp[gS]at h
 |4,_,h1,_,_=>exact absurd rfl h1
 |5,_,_,h,hf=>
  match j,b,a,h,hg with
  |0,_,_,_,hg=>rw[hg];exact d f b1
  |1,_,_,h,_=>simp[gS]at h
  |2,_,_,_,hg=>
   obtain⟨p1,p2,p3⟩:=hg;have hf:f.all=0:=hf;simp[Sim.compat0,p1,p2,p3,hf]
  |3,_,_,h,_=>simp[gS]at h
  |4,_,h4,_,_=>exact absurd rfl h4
  |5,_,_,h,_=>simp[gS]at h
def Iz {i j:Nat} {f g:Foot} (hi:i<=6) (m:j<=6) (h:mN i j=true) (hf:oV i f) (hg:oV j g):Sim.compat f g=true:=by
 simp only[mN,aQ3]at h
 have left:i=0->Sim.compat f g=true:=by
  intro this;subst this;rcases hf with rfl|hf;rfl;have hf:f={}:=hf;subst hf;rfl
 have right:j=0->Sim.compat f g=true:=by
  intro this;subst this;have hg:g={}:=by rcases hg with hg|hg<;>exact hg
  subst hg;simp[Sim.compat,Sim.Foot.isE]
 rcases h with((h|h)|h)|h;simp_all;simp_all;by_cases l:i<=5/\j<=5;simp[Sim.compat,Ta l.1 l.2 h hf hg];rcases(by omega:i=6\/j=6)with rfl|rfl
 match j,m,h,right with
 |0,_,_,r=>exact r rfl
 |1,_,h,_|2,_,h,_|3,_,h,_|4,_,h,_|5,_,h,_|6,_,h,_=>simp[gS]at h
 match i,hi,h,left with
 |0,_,_,r=>exact r rfl
 |1,_,h,_|2,_,h,_|3,_,h,_|4,_,h,_|5,_,h,_|6,_,h,_=>simp[gS]at h
 simp only[rO,aQ3,aA3]at h
 have d:∀{f:Foot},oV 6 f->f={}\/(f.rd=[]/\f.wr=[]/\f.all=1):=fun h=>by
  rcases h with h|h;exact .inl h
  grind
 have e:∀g:Foot,Sim.compat {} g=true:=fun g=>rfl;have k:∀f:Foot,Sim.compat f {}=true:=fun f=>by simp[Sim.compat,Sim.Foot.isE]
 rcases h with⟨h1,h2⟩|⟨h1,h2⟩
 have h1:=aR3 h1;subst h1;rcases d hg with rfl|⟨a,b,c⟩
 exact k f;rcases hf with rfl|hf;exact e g;rcases h2 with h2|h2;have h2:=aR3 h2;subst h2;obtain⟨p1,p2,p3⟩:f.wr=[]/\f.al=[]/\f.all=0:=hf;simp[Sim.compat,Sim.compat0,a,b,c,p1,p2,p3];have h2:=aR3 h2;subst h2;obtain⟨p1,p2,p3⟩:f.rd=[]/\f.wr=[]/\f.all=0:=hf;simp[Sim.compat,Sim.compat0,a,b,c,p1,p2,p3];have h1:=aR3 h1;have h2:=aR3 h2;subst h1;subst h2;rcases d hf with rfl|⟨a,b,c⟩
 exact e g;rcases hg with rfl|hg;exact k f;obtain⟨p1,p2,p3⟩:g.rd=[]/\g.wr=[]/\g.all=0:=hg;simp[Sim.compat,Sim.compat0,a,b,c,p1,p2,p3]
def rP (N:FuncId->Bool) (dr:Nat) (k:gC):lO N dr k<=6:=by
 cases k
 case len kd=>simp only[lO];cases Nat.beq kd 2<;>simp
 case callF f=>simp only[lO];split<;>(try split)<;>omega
 all_goals simp[lO]<;>split<;>omega
def eK1 {N:FuncId->Bool} {dr:Nat} {k:gC} (h:jG k=true):lO N dr k=3\/lO N dr k=4\/lO N dr k=6:=by
 cases k<;>simp[jG]at h<;>simp only[lO]<;>split<;>(try split)<;>simp
def tL1 {L:Nat->aB AO} {n:Nat} {k:gC} {xs:aA AV} {out:Out} (h:doOp L lim n k xs=some out) (hk:lO N dr k<=1):out.new=none:=by
 have hc:∀{o:aB Out} {P:Prop},o=some out->(∀o',o=some o'->o'.new=none)->out.new=none:=fun h1 h2=>h2 _ h1;unfold doOp at h;split at h
 all_goals first|(simp[lO]at hk;done)|(simp only[lO]at hk;split at hk<;>omega)|skip
 all_goals (repeat' split at h)
 all_goals first|(cases h;done)|(cases h;rfl)|(simp only[aB3]at h;obtain⟨_,_,rfl⟩:=h;rfl)|skip
def tL {s:Hp} {out:Out} (h:out.new=none):List.range' s.n ((out.apply s).n-s.n)=[]:=by
 unfold Out.apply;rw[h];simp
end
end Go.P
namespace Go.P
open Go.Sim (AV AO Hp gN upd St IC IX Ex gC CK Wf Out doOp kG Foot foot exec runOps eU wanted put iC)
section
variable {T:kG} {N:FuncId->Bool} {dr lim:Nat}
def Wb {k:gC} {xs:aA AV} {s:Hp} {out:Out} (hc:jG k=false) (hd:doOp (Sim.look s.h) lim s.n k xs=some out):
  oV (lO N dr k) {foot T k xs with al:=List.range' s.n ((out.apply s).n-s.n)}:=by
 have d:lO N dr k<=1->List.range' s.n ((out.apply s).n-s.n)=[]:=fun h=>tL (tL1 hd h);cases k
 case len kd=>
  cases hk:Nat.beq kd 2 with
  |true=>
   have hl:=d (by simp[lO,hk]);rw[hl,show lO N dr (.len kd)=1 by simp[lO,hk]];refine .inr ⟨?_,rfl,?_⟩<;>(rcases xs with _|⟨a,_|⟨b,t⟩⟩<;>rfl)
  |false=>
   have h0:=d (by simp[lO,hk]);refine .inl ?_;rw[h0];rcases xs with _|⟨a,_|⟨b,t⟩⟩<;>simp[foot,hk]
 all_goals first|(simp[jG]at hc;done)|skip
 all_goals first
  |exact .inr trivial
  |(refine .inr ?_;rcases xs with _|⟨a,_|⟨b,_|⟨c,t⟩⟩⟩<;>rfl)
  |(have h0:=d (bL3 1);refine .inl ?_;rw[h0];rfl)
  |(have h0:=d (aC3 1);refine .inr ⟨?_,h0,?_⟩<;>(rcases xs with _|⟨a,_|⟨b,_|⟨c,t⟩⟩⟩<;>rfl))
  |exact .inr ⟨rfl,rfl,rfl⟩
def uA {c:Nat} (h:c=3\/c=4) (f:Foot) (hf:f={all:=1,x:=true}):oV c f:=by
 subst hf;rcases h with rfl|rfl;exact .inr rfl;exact .inr trivial
def Tr.feet (a:dr≠0) {os:aA Sim.Op1} {σ τ:St} {fs:aA Foot} (h:Tr T N dr lim os σ fs τ):fs.length=os.length/\∀(i:Nat) (o:Sim.Op1) (f:Foot),os[i]? =some o->fs[i]? =some f->oV (lO N dr o.k) f:=by
 induction h with
 |nil=>exact⟨rfl,fun i o f h=>by simp at h⟩
 |skip hw h ih=>
  refine⟨by simp[ih.1],fun i o f h1 h2=>?_⟩;cases i with
  |zero=>simp at h1 h2;subst h1;subst h2;exact .inl rfl
  |succ i=>simp at h1 h2;exact ih.2 i o f h1 h2
 |op hw he hc hd h ih=>
  refine⟨by simp[ih.1],fun i o f h1 h2=>?_⟩;cases i with
  |zero=>simp at h1 h2;subst h1;subst h2;exact Wb hc hd
  |succ i=>simp at h1 h2;exact ih.2 i o f h1 h2
 |@call o os σ τ fs xs v hw he hc hk hf hs h ih=>
  refine⟨by simp[ih.1],fun i o' f h1 h2=>?_⟩;cases i with
  |zero=>
   simp at h1 h2;subst h1;subst h2;exact uA hk _ rfl
  |succ i=>simp at h1 h2;exact ih.2 i o' f h1 h2
 |@ncall o os σ τ fs xs v s' hw he hc hf hk hs hn h ih=>
  refine⟨by simp[ih.1],fun i o' f h1 h2=>?_⟩;cases i with
  |zero=>
   simp at h1 h2;subst h1;subst h2;rw[hk a];exact .inr trivial
  |succ i=>simp at h1 h2;exact ih.2 i o' f h1 h2
 |@xcall o os σ τ fs xs v s' hw he hc hk hf hs hn h ih=>
  refine⟨by simp[ih.1],fun i o' f h1 h2=>?_⟩;cases i with
  |zero=>
   simp at h1 h2;subst h1;subst h2;rw[hk];exact .inr ⟨rfl,rfl,rfl,rfl⟩
  |succ i=>simp at h1 h2;exact ih.2 i o' f h1 h2
def jF {f g:Foot} (h:Sim.compat0 f g=true):Sim.compat f g=true:=by simp[Sim.compat,h]
def Kz (ks before:aA Nat):Bool:=
 (List.range ks.length).all fun j=>(List.range j).all fun i=>(before.getD j 0).testBit i||mN (ks.getD i 4) (ks.getD j 4)
def Fh {a:Nat} {ft:Nat->Foot}:∀{j:Nat},(∀i,i<j->a.testBit i=true\/(ft i).al=[])->Sim.unseen a j (iC ft j)=[]
 |0,_=>rfl
 |j+1,h=>by
  simp only[iC,Sim.unseen,dH3]
  rw[Fh (fun i hi=>h i (by omega))]
  rcases h j (by omega)with h1|h1
  rw[aE3 h1];rfl
  rw[h1];simp
def xV {a:Nat} {f:Foot} {ft:Nat->Foot}:∀{j:Nat},(∀i,i<j->a.testBit i=true\/Sim.compat (ft i) f=true)->Sim.drawOK.okAgainst a f (iC ft j) j=true
 |0,_=>rfl
 |j+1,h=>by
  simp only[iC,Sim.drawOK.okAgainst,dH3,aA3,aQ3]
  exact⟨h j (by omega),xV (fun i hi=>h i (by omega))⟩
def zS {before:aA Nat} {ft:Nat->Foot}:∀{m:Nat},(∀j,j<m->∀i,i<j->(before.getD j 0).testBit i=true\/Sim.compat (ft i) (ft j)=true)->Sim.drawOK before (iC ft m) m=true
 |0,_=>rfl
 |m+1,h=>by
  simp only[iC,Sim.drawOK,dH3,aA3]
  exact⟨xV (h m (by omega)),zS (fun j a=>h j (by omega))⟩
def eL1 {ft:Nat->Foot}:∀{j:Nat},(∀i,i<j->(ft i).all=0\/(ft i).x=true)->Sim.nbF (iC ft j)=true
 |0,_=>rfl
 |j+1,h=>by
  have ih:=eL1 (j:=j) fun i hi=>h i (by omega)
  unfold Sim.nbF at ih ⊢
  rw[iC,bY3,ih,Bool.and_true]
  rcases h j (by omega)with h1|h1
  rw[h1];rfl
  rw[h1];simp
def eM1 (h:aA gN):Sim.hide [] h=h:=rfl
def Tr.foot (F:dr≠0) {before ks:aA Nat}:∀{os:aA Sim.Op1} {σ τ:St} {fs:aA Foot},Tr T N dr lim os σ fs τ->∀(j:Nat) (ft:Nat->Foot),
  (∀(i:Nat),i<fs.length->fs[i]? =some (ft (j+i)))->(∀(i:Nat) (o:Sim.Op1),os[i]? =some o->ks[j+i]? =some (lO N dr o.k))->
  (∀(i l k k':Nat),i<l->ks[i]? =some k->ks[l]? =some k'->k'=3\/k'=4->(before.getD l 0).testBit i=true\/mN k k'=true)->(∀i k,i<j->ks[i]? =some k->oV k (ft i))->(∀i,i<j->∃k,ks[i]? =some k/\k<=6)->(dr=5->∀(i k:Nat),ks[i]? =some k->k≠4)->
  ∃D,∀d,D<=d->eU T (exec T d) lim before os j (iC ft j) σ=some (τ,iC ft (j+os.length)):=by
 intro os σ τ fs h
 induction h with
 |nil=>intro j ft _ _ _ _ _ _;exact⟨0,fun d _=>rfl⟩
 |@skip o os σ τ fs hw h ih=>
  intro j ft h1 h2 y q r f;have p:ft j={}:=by have:=h1 0 (by simp);simpa using this.symm
  obtain⟨D,z⟩:=ih (j+1) ft (fun i hi=>by have:=h1 (i+1) (by simp;omega);simpa[bS3,cS3 1 i]using this) (fun i o A=>by have:=h2 (i+1) o (by simpa using A);simpa[bS3,cS3 1 i]using this) y
   (fun i k hi hk=>by
    by_cases e:i=j;subst e;rw[p];exact .inl rfl;exact q i k (by omega) hk)
   (fun i hi=>by
    by_cases e:i=j;subst e;exact⟨_,by have:=h2 0 o rfl;simpa using this,rP _ _ _⟩;exact r i (by omega)) f
  refine⟨D,fun d hd=>?_⟩;simp only[eU,hw];have:=z d hd;rw[iC,p]at this;rw[bG3,show j+(os.length+1)=j+1+os.length by omega];exact this
 |@op o os σ τ fs xs out hw he hc hd h ih=>
  intro j ft h1 h2 y q r f;have p:ft j={Sim.foot T o.k xs with al:=List.range' σ.s.n ((out.apply σ.s).n-σ.s.n)}:=by have:=h1 0 (by simp);simpa using this.symm
  obtain⟨D,z⟩:=ih (j+1) ft (fun i hi=>by have:=h1 (i+1) (by simp;omega);simpa[bS3,cS3 1 i]using this) (fun i o A=>by have:=h2 (i+1) o (by simpa using A);simpa[bS3,cS3 1 i]using this) y
   (fun i k hi hk=>by
    by_cases e:i=j;subst e;have:=h2 0 o rfl;rw[cQ3,hk]at this;cases this;rw[p];exact Wb hc hd;exact q i k (by omega) hk)
   (fun i hi=>by
    by_cases e:i=j;subst e;exact⟨_,by have:=h2 0 o rfl;simpa using this,rP _ _ _⟩;exact r i (by omega)) f
  have L:(Sim.foot T o.k xs).all=0:=by
   cases hk:o.k<;>simp[hk,jG]at hc<;>(rcases xs with _|⟨a,_|⟨b,_|⟨c,t⟩⟩⟩<;>rfl)
  have E:¬(Sim.foot T o.k xs).all=1:=by omega
  have B:¬(Sim.foot T o.k xs).all=3:=by omega
  refine⟨D,fun d M=>?_⟩;simp only[eU,hw,aZ3,he];rw[aG3 E,aG3 B,Vz hc hd];simp only;have:=z d M;rw[iC,p]at this;rw[bG3,show j+(os.length+1)=j+1+os.length by omega];exact this
 |@ncall o os σ τ fs xs v s' hw he hc hf hk hs hn h ih=>
  intro j ft h1 h2 y q r f;have p:ft j={Sim.foot T o.k xs with al:=List.range' σ.s.n (s'.n-σ.s.n)}:=by have:=h1 0 (by simp);simpa using this.symm
  obtain⟨D,z⟩:=ih (j+1) ft (fun i hi=>by have:=h1 (i+1) (by simp;omega);simpa[bS3,cS3 1 i]using this) (fun i o A=>by have:=h2 (i+1) o (by simpa using A);simpa[bS3,cS3 1 i]using this) y
   (fun i k hi w=>by
    by_cases e:i=j;subst e;have:=h2 0 o rfl;rw[cQ3,w]at this;cases this;rw[p,hk F];exact .inr trivial;exact q i k (by omega) w)
   (fun i hi=>by
    by_cases e:i=j;subst e;exact⟨_,by have:=h2 0 o rfl;simpa using this,rP _ _ _⟩;exact r i (by omega)) f
  obtain⟨D2,u⟩:=hs;refine⟨max D D2,fun d hd=>?_⟩;simp only[eU,hw,aZ3,he];have G:=hf.resolve_right F;rw[aG3 (by rw[G];omega),aG3 (by rw[G];omega),u d (by omega)];simp only;have:=z d (by omega);rw[iC,p]at this;rw[bG3,show j+(os.length+1)=j+1+os.length by omega];exact this
 |@call o os σ τ fs xs v hw he hc hk3 hf hs h ih=>
  intro j ft h1 h2 y q r f;have p:ft j={all:=1,x:=true}:=by have:=h1 0 (by simp);simpa using this.symm
  have C:ks[j]? =some (lO N dr o.k):=by
   have:=h2 0 o rfl;simpa using this
  obtain⟨D,z⟩:=ih (j+1) ft (fun i hi=>by have:=h1 (i+1) (by simp;omega);simpa[bS3,cS3 1 i]using this) (fun i o A=>by have:=h2 (i+1) o (by simpa using A);simpa[bS3,cS3 1 i]using this) y
   (fun i k hi hk=>by
    by_cases e:i=j;subst e;rw[C]at hk;cases hk;rw[p];exact uA hk3 _ rfl;exact q i k (by omega) hk)
   (fun i hi=>by
    by_cases e:i=j;subst e;exact⟨_,C,rP _ _ _⟩;exact r i (by omega)) f
  obtain⟨D2,u⟩:=hs
  have S:Sim.unseen (before.getD j 0) j (iC ft j)=[]:=by
   refine Fh (fun i hi=>?_);obtain⟨k,hk,J⟩:=r i hi;rcases y i j k _ hi hk C hk3 with f|f;exact .inl f;right;have g:=q i k hi hk
   have R:mN k 3=true:=by
    rcases hk3 with e|e;rw[e]at f;exact f;rw[e]at f;(match k,J,f with|0,_,_=>rfl|1,_,h|2,_,h|3,_,h|4,_,h|5,_,h|6,_,h=>simp[mN,gS,rO]at h)
   rcases g with g|g;rw[g]
   match k,J,R,g with
   |0,_,_,g=>rw[g]
   |1,_,_,g=>exact g.2.1
   |2,_,f,_=>simp[mN,gS,rO]at f
   |3,_,_,g=>rw[g]
   |4,_,f,_=>simp[mN,gS,rO]at f
   |5,_,f,_=>simp[mN,gS,rO]at f
   |6,_,f,_=>simp[mN,gS,rO]at f
  refine⟨max D D2,fun d hd=>?_⟩;simp only[eU,hw,aZ3,he];rw[aE3 (by rw[hf]),S,eM1,u d (by omega) _];simp only;have:=z d (by omega);rw[iC,p]at this;rw[hf,bG3,show j+(os.length+1)=j+1+os.length by omega];exact this
 |@xcall o os σ τ fs xs v s' hw he hc hk hf hs hn h ih=>
  intro j ft h1 h2 y q r f;have p:ft j={al:=List.range' σ.s.n (s'.n-σ.s.n),all:=1,x:=true}:=by have:=h1 0 (by simp);simpa using this.symm
  obtain⟨D,z⟩:=ih (j+1) ft (fun i hi=>by have:=h1 (i+1) (by simp;omega);simpa[bS3,cS3 1 i]using this) (fun i o A=>by have:=h2 (i+1) o (by simpa using A);simpa[bS3,cS3 1 i]using this) y
   (fun i k hi w=>by
    by_cases e:i=j;subst e;have:=h2 0 o rfl;rw[cQ3,w]at this;cases this;rw[p,hk];exact .inr ⟨rfl,rfl,rfl,rfl⟩;exact q i k (by omega) w)
   (fun i hi=>by
    by_cases e:i=j;subst e;exact⟨_,by have:=h2 0 o rfl;simpa using this,rP _ _ _⟩;exact r i (by omega)) f
  obtain⟨D2,u⟩:=hs;have K:=f (Wa hk)
  have P:Sim.nbF (iC ft j)=true:=eL1 fun i hi=>by
   obtain⟨k,H,O⟩:=r i hi;have U:=K i k H;rcases q i k hi H with m|m;exact .inl (by rw[m])
   match k,O,U,m with
   |0,_,_,m=>exact .inl (by rw[m])
   |1,_,_,m=>exact .inl m.2.2
   |2,_,_,m=>exact .inl m.2.2
   |3,_,_,m=>exact .inr (by rw[m])
   |4,_,U,_=>exact absurd rfl U
   |5,_,_,m=>exact .inl m
   |6,_,_,m=>exact .inr m.2.2.2
  refine⟨max D D2,fun d hd=>?_⟩;simp only[eU,hw,aZ3,he];rw[aG3 (by rw[hf];omega),aE3 hf,P,u d (by omega)];simp only;have:=z d (by omega);rw[iC,p]at this;rw[bG3,show j+(os.length+1)=j+1+os.length by omega];exact this
def Pe {ks before:aA Nat} (h:Kz ks before=true):∀(i l k k':Nat),i<l->ks[i]? =some k->ks[l]? =some k'->(before.getD l 0).testBit i=true\/mN k k'=true:=by
 intro i l k k' a hi hl;simp only[Kz,aD3,dR3,aQ3]at h;have:=h l (zZ2.1 hl).1 i a;simpa[List.getD,hi,hl]using this
def eN1 (ks:aA Nat):Bool:=ks.all fun k=> !(Nat.beq k 4)
def zT {ks:aA Nat} (h:eN1 ks=true):∀(i k:Nat),ks[i]? =some k->k≠4:=fun i k hk=>by
 have:=aD3.1 h k (aJ3 hk)
 exact fun e=>by subst e;simp at this
def Tr.draw (e:dr≠0) {before:aA Nat} {os:aA Sim.Op1} {σ τ:St} {fs:aA Foot} (h:Tr T N dr lim os σ fs τ) (p:Kz (os.map fun o=>lO N dr o.k) before=true) (g:dr=5->eN1 (os.map fun o=>lO N dr o.k)=true):
  ∃D,∀d,D<=d->∃f,eU T (exec T d) lim before os 0 [] σ=some (τ,f)/\Sim.drawOK before f f.length=true:=by
 let ft:Nat->Foot:=fun i=>fs.getD i {}
 have b:∀i,i<fs.length->fs[i]? =some (ft i):=fun i hi=>by simp[ft,hi]
 obtain⟨hl,a⟩:=h.feet e;have sp:=Pe p;have c:∀(i:Nat) (o:Sim.Op1),os[i]? =some o->(os.map fun o=>lO N dr o.k)[i]? =some (lO N dr o.k):=fun i o n=>by simp[n]
 obtain⟨D,s⟩:=Tr.foot e (before:=before) (ks:=os.map fun o=>lO N dr o.k) h 0 ft (fun i hi=>by rw[bX3];exact b i hi) (fun i o n=>by rw[bX3];exact c i o n)
  (fun i l k k' m h1 h2 _=>sp i l k k' m h1 h2) (fun i k hi=>by omega) (fun i hi=>by omega) (fun r=>zT (g r))
 refine⟨D,fun d hd=>⟨_,s d hd,?_⟩⟩;rw[bX3,Sim.revF_length];refine zS (fun j t i hi=>?_);have q:os[j]? =some os[j]:=by simp
 have oi:os[i]? =some (os[i]'(by omega)):=by simp
 rcases sp i j _ _ hi (c i _ oi) (c j _ q)with h1|h1;exact .inl h1;right;exact Iz (rP _ _ _) (rP _ _ _) h1 (a i _ _ oi (b i (by omega))) (a j _ _ q (b j (by omega)))
def Tb (o:Sim.Op1) (a:Nat):Bool:=match o.k,o.xs with
 |.loadS,[.t b]=>Nat.beq b a
 |.loadA _,[.t b]=>Nat.beq b a
 |.slc ..,.t b::_=>Nat.beq b a
 |_,_=>false
def tkM (o:Sim.Op1):Bool:=match o.k with
 |.buildSl .. |.append .. =>true
 |_=>false
def Zi (o:Sim.Op1) (a:Nat):Bool:=match o.k,o.xs with
 |.store _,[.t b,_]=>Nat.beq b a
 |.mapup ..,[.t b,_,_]=>Nat.beq b a
 |_,_=>false
def Wc (o:Sim.Op1) (a:Nat):Bool:=match o.k,o.dst with
 |.buildSl ..,some d=>Nat.beq d a
 |.append ..,some d=>Nat.beq d a
 |_,_=>false
def sJ (a:Nat) (o:Sim.Op1):Bool:=match o.dst with
 |some d=> !Nat.beq d a
 |none=>true
def eO1 (o:Sim.Op1) (d:Nat):aB Nat:=match o.k,o.xs,o.dst,o.guard with
 |.append ..,.t b::_,some d',none=>if Nat.beq b d=true then some d' else none
 |_,_,_,_=>none
def vK:aA Sim.Op1->Nat->Nat->Bool
 |[],d,a=>Nat.beq d a
 |o::os,d,a=>(sJ d o&&vK os d a)||(match eO1 o d with|some d'=>vK os d' a|none=>false)
def tkL (os:aA Sim.Op1) (o:Sim.Op1) (i a:Nat):Bool:=match o.dst with
 |some d=>Wc o d&&vK (os.drop (i+1)) d a
 |none=>false
def tkS (o:Sim.Op1) (a:Nat):Bool:=match o.k,o.dst with
 |.slc ..,some d=>Nat.beq d a
 |_,_=>false
def Wd (os:aA Sim.Op1) (p:Nat×Nat×Nat×Nat):Bool:=match os[p.1]?,os[p.2.1]? with
 |some o,some q=>jG o.k&&(Tb q p.2.2.2&&(os.drop p.2.1).all (sJ p.2.2.2))
 |_,_=>false
def We (os:aA Sim.Op1) (p:Nat×Nat×Nat×Nat):Bool:=match os[p.1]?,os[p.2.1]? with
 |some o,some q=>((os.drop p.2.1).all (sJ p.2.2.2)&&((Tb o p.2.2.1&&(os.drop p.1).all (sJ p.2.2.1)&&Zi q p.2.2.2)||(Wc o p.2.2.1&&(os.drop (p.1+1)).all (sJ p.2.2.1)&&Tb q p.2.2.2)||(Nat.beq p.2.2.1 p.2.2.2&&tkM o&&Tb q p.2.2.2)||(tkL os o p.1 p.2.2.1&&Tb q p.2.2.2)))||(Tb o p.2.2.1&&(os.drop p.1).all (sJ p.2.2.1)&&(Wc q p.2.2.2&&(os.drop (p.2.1+1)).all (sJ p.2.2.2)))||(tkS o p.2.2.1&&(os.drop (p.1+1)).all (sJ p.2.2.1)&&(Zi q p.2.2.2&&(os.drop p.2.1).all (sJ p.2.2.2)))
 |_,_=>false
def Zj (os:aA Sim.Op1) (p:Nat×Nat×Nat×Nat):Bool:=bif Nat.beq p.2.2.1 999999 then Wd os p else We os p
def Wg (ks before:aA Nat) (ex:aA (Nat×Nat×Nat×Nat)):Bool:=
 (List.range ks.length).all fun j=>(List.range j).all fun i=>(before.getD j 0).testBit i||mN (ks.getD i 4) (ks.getD j 4)||ex.any fun p=>Nat.beq p.1 i&&Nat.beq p.2.1 j
def nF {t:aA AV} {o:Sim.Op1} {a:Nat} {v:AV} (h:sJ a o=true):(put t o.dst v)[a]? =t[a]? :=by
 unfold sJ at h;unfold put;split;rename_i d hd;rw[hd]at h;simp only[aT3,bR,bD3]at h;rw[aP3 h];rfl
def Tr.keep {os:aA Sim.Op1} {σ τ:St} {fs:aA Foot} (h:Tr T N dr lim os σ fs τ) {a:Nat} (b:os.all (sJ a)=true):τ.t[a]? =σ.t[a]? :=by
 induction h with
 |nil=>rfl
 |skip hw h ih=>simp only[bY3,aA3]at b;rw[ih b.2,nF b.1]
 |op hw he hc hd h ih=>simp only[bY3,aA3]at b;rw[ih b.2,nF b.1]
 |call hw he hc hk hf hs h ih=>simp only[bY3,aA3]at b;rw[ih b.2,nF b.1]
 |ncall hw he hc hf hk hs hn h ih=>simp only[bY3,aA3]at b;rw[ih b.2,nF b.1]
 |xcall hw he hc hk hf hs hn h ih=>simp only[bY3,aA3]at b;rw[ih b.2,nF b.1]
def aP2 {L:Nat->aB AO} {n:Nat} {o:Sim.Op1} {a:Nat} {xs:aA AV} {out:Out} (hk:Zi o a=true) (h:doOp L lim n o.k xs=some out):out.new=none:=by
 unfold Zi at hk;split at hk
 .rename_i h1 h2
  rw[h1]at h;unfold doOp at h
  repeat' split at h
  all_goals first|(cases h;done)|(cases h;rfl)|simp_all
 .rename_i h1 h2
  rw[h1]at h;unfold doOp at h
  repeat' split at h
  all_goals first|(cases h;done)|(cases h;rfl)|simp_all
 .cases hk
def Zk {t:aA AV} {b:Nat} {r:aA IX} {xs:aA AV} (h:Sim.evs t (.t b::r)=some xs):∃y ys,xs=y::ys/\t[b]? =some y/\Sim.evs t r=some ys:=by
 simp only[Sim.evs,Sim.IX.ev]at h;split at h
 grind
 cases h
def uB {s:Hp} {out:Out} {x:AO} (h:out.new=some x):List.range' s.n ((out.apply s).n-s.n)=[s.n]:=by
 have:(out.apply s).n=s.n+1:=by unfold Out.apply;rw[h]
 rw[this,Nat.add_sub_cancel_left];rfl
def eQ1 (f:Foot) (τ:St) (a:Nat):Prop:=f={}\/∀y,τ.t[a]? =some y->f.rd=Sim.idOf y/\f.wr=[]/\f.al=[]/\f.all=0
def aQ2 (f:Foot) (τ:St) (a:Nat):Prop:=f={}\/∀y,τ.t[a]? =some y->f.wr=Sim.idOf y/\f.rd=[]/\f.al=[]/\f.all=0
def lW1 (f:Foot) (τ:St) (a:Nat):Prop:=f={}\/∀y,τ.t[a]? =some y->f.all=0/\(∀x∈f.wr,x∈Sim.idOf y)/\∀x∈f.al,x∈Sim.idOf y
def Tc {L:Nat->aB AO} {n ty esz:Nat} {s:AV} {new:aA (aA AV)} {out:Out} (h:Sim.appendTo L lim n ty esz s new=some out):
  (∀x∈Sim.idOf s,x∈Sim.idOf out.v)/\(out.new=none\/Sim.idOf out.v=[n]):=by
 unfold Sim.appendTo at h
 repeat' split at h
 all_goals first|(cases h;done)|(cases h;exact⟨fun x a=>a,.inl rfl⟩)|(cases h;exact⟨fun x a=>by simp[Sim.idOf]at a,.inr rfl⟩)
def La {L:Nat->aB AO} {n:Nat} {o:Sim.Op1} {a:Nat} {xs:aA AV} {out:Out} (hk:Wc o a=true) (h:doOp L lim n o.k xs=some out):
  (foot T o.k xs).all=0/\(∀x∈(foot T o.k xs).wr,x∈Sim.idOf out.v)/\(out.new=none\/Sim.idOf out.v=[n])/\o.dst=some a:=by
 unfold Wc at hk;split at hk;rename_i d h1 h2;rw[h1]at h ⊢;rw[h2,aR3 hk];refine⟨by rcases xs with _|⟨p,_|⟨q,_|⟨r,t⟩⟩⟩<;>rfl,fun x e=>by rcases xs with _|⟨p,_|⟨q,_|⟨r,t⟩⟩⟩<;>simp[foot]at e,.inr ?_,rfl⟩;unfold doOp at h;simp only[aB3]at h;obtain⟨cs,_,rfl⟩:=h;rfl;rename_i d h1 h2;rw[h1]at h ⊢;rcases xs with _|⟨p,_|⟨q,_|⟨r,t⟩⟩⟩
 simp[doOp]at h;simp[doOp]at h;simp only[doOp]at h;split at h;split at h;rename_i o' c;have:=Tc c;have b:out=o':=by grind
 subst b;exact⟨rfl,this.1,this.2,by rw[h2,aR3 hk]⟩;cases h;cases h;simp[doOp]at h;cases hk
def wK1 {o:Sim.Op1} {a:Nat} {σ:St} {xs:aA AV} (hk:Tb o a=true) (he:Sim.evs σ.t o.xs=some xs):∃y,σ.t[a]? =some y/\foot T o.k xs={rd:=Sim.idOf y}/\lO N dr o.k<=1:=by
 unfold Tb at hk;split at hk;rename_i b h1 h2;rw[h2]at he;obtain⟨y,ys,rfl,d,c⟩:=Zk he;simp only[Sim.evs,aF3]at c;subst c;rw[h1,<-aR3 hk];exact⟨y,d,rfl,by simp[lO]⟩;rename_i b h1 h2;rw[h2]at he;obtain⟨y,ys,rfl,d,c⟩:=Zk he;simp only[Sim.evs,aF3]at c;subst c;rw[h1,<-aR3 hk];exact⟨y,d,rfl,by simp[lO]⟩;rename_i b _ h1 h2;rw[h2]at he;obtain⟨y,ys,rfl,d,c⟩:=Zk he;rw[h1,<-aR3 hk];exact⟨y,d,rfl,by simp[lO]⟩;cases hk
def wL1 {o:Sim.Op1} {a:Nat} {σ:St} {xs:aA AV} (hk:Zi o a=true) (he:Sim.evs σ.t o.xs=some xs):∃y,σ.t[a]? =some y/\foot T o.k xs={wr:=Sim.idOf y}:=by
 unfold Zi at hk;split at hk;rename_i b c h1 h2;rw[h2]at he;obtain⟨y,ys,rfl,e,f⟩:=Zk he;rw[h1,<-aR3 hk];exact⟨y,e,rfl⟩;rename_i b c d h1 h2;rw[h2]at he;obtain⟨y,ys,rfl,e,f⟩:=Zk he;rw[h1,<-aR3 hk];exact⟨y,e,rfl⟩;cases hk
def mV {o:Sim.Op1} {a:Nat} (h:Tb o a=true\/Zi o a=true\/Wc o a=true):jG o.k=false/\∀xs,(foot T o.k xs).all=0:=by
 have key:∀k:gC,(k=.loadS\/(∃n,k=.loadA n)\/(∃n,k=.store n)\/(∃a b,k=.mapup a b)\/(∃a b c d e,k=.buildSl a b c d e)\/(∃a b c d e,k=.append a b c d e)\/∃a b c d,k=.slc a b c d)->jG k=false/\∀xs,(foot T k xs).all=0:=by
  intro k hk
  rcases hk with rfl|⟨_,rfl⟩|⟨_,rfl⟩|⟨_,_,rfl⟩|⟨_,_,_,_,_,rfl⟩|⟨_,_,_,_,_,rfl⟩|⟨_,_,_,_,rfl⟩<;>
   exact⟨rfl,fun xs=>by rcases xs with _|⟨p,_|⟨q,_|⟨r,t⟩⟩⟩<;>rfl⟩
 refine key _ ?_;rcases h with h|h|h;unfold Tb at h;split at h
 grind
 grind
 grind
 cases h;unfold Zi at h;split at h
 grind
 grind
 cases h;unfold Wc at h;split at h
 grind
 grind
 cases h
def Tr.touch {os:aA Sim.Op1} {σ τ:St} {fs:aA Foot} (h:Tr T N dr lim os σ fs τ):∀(i:Nat) (o:Sim.Op1) (f:Foot) (a:Nat),os[i]? =some o->fs[i]? =some f->
  (Tb o a=true->(os.drop i).all (sJ a)=true->eQ1 f τ a)/\(Zi o a=true->(os.drop i).all (sJ a)=true->aQ2 f τ a)/\(Wc o a=true->(os.drop (i+1)).all (sJ a)=true->lW1 f τ a):=by
 induction h with
 |nil=>intro i o f a h;simp at h
 |skip hw h ih=>
  intro i o f a h1 h2;cases i with
  |zero=>simp at h1 h2;subst h1;subst h2;exact⟨fun _ _=>.inl rfl,fun _ _=>.inl rfl,fun _ _=>.inl rfl⟩
  |succ i=>simp at h1 h2;simpa using ih i o f a h1 h2
 |@op o os σ τ fs xs out hw he hc hd h ih=>
  intro i o' f a h1 h2;cases i with
  |zero=>
   simp at h1 h2;subst h1;subst h2;refine⟨fun hk hb=>?_,fun hk hb=>?_,fun hk hb=>?_⟩;simp only[bZ3,bY3,aA3]at hb;obtain⟨y,k,d,e⟩:=wK1 (T:=T) (N:=N) (dr:=dr) hk he;refine .inr (fun z b=>?_);rw[h.keep hb.2,nF hb.1,k]at b;cases b;exact⟨by rw[d],by rw[d],tL (tL1 hd e),by rw[d]⟩;simp only[bZ3,bY3,aA3]at hb;obtain⟨y,k,d⟩:=wL1 (T:=T) hk he;refine .inr (fun z b=>?_);rw[h.keep hb.2,nF hb.1,k]at b;cases b;exact⟨by rw[d],by rw[d],tL (aP2 hk hd),by rw[d]⟩;obtain⟨k,d,e,l⟩:=La (T:=T) hk hd;have hb:os.all (sJ a)=true:=by simpa using hb
   have j:∀z,(put σ.t o.dst out.v)[a]? =some z->z=out.v:=fun z b=>by
    rw[l]at b;simp only[put,aX3]at b;split at b
    grind
    grind
   refine .inr (fun z b=>?_);rw[h.keep hb]at b;have:=j z b;subst this;refine⟨k,d,fun x c=>?_⟩;rcases e with e|e;have:=tL (s:=σ.s) e;simp only at c;rw[this]at c;simp at c;cases hn:out.new with
   |none=>
    have:=tL (s:=σ.s) hn;simp only at c;rw[this]at c;simp at c
   |some w=>
    simp only at c;rw[uB hn]at c;rw[e];exact c
  |succ i=>simp at h1 h2;simpa using ih i o' f a h1 h2
 |@call o os σ τ fs xs v hw he hc hk hf hs h ih=>
  intro i o' f a h1 h2;cases i with
  |zero=>
   simp at h1 h2;subst h1;subst h2;have no:¬(Tb o a=true\/Zi o a=true\/Wc o a=true):=fun g=>by have:=(mV (T:=T) g).1;rw[hc]at this;cases this
   exact⟨fun hk _=>absurd (.inl hk) no,fun hk _=>absurd (.inr (.inl hk)) no,fun hk _=>absurd (.inr (.inr hk)) no⟩
  |succ i=>simp at h1 h2;simpa using ih i o' f a h1 h2
 |@ncall o os σ τ fs xs v s' hw he hc hf hk hs hn h ih=>
  intro i o' f a h1 h2;cases i with
  |zero=>
   simp at h1 h2;subst h1;subst h2;have no:¬(Tb o a=true\/Zi o a=true\/Wc o a=true):=fun g=>by have:=(mV (T:=T) g).1;rw[hc]at this;cases this
   exact⟨fun hk _=>absurd (.inl hk) no,fun hk _=>absurd (.inr (.inl hk)) no,fun hk _=>absurd (.inr (.inr hk)) no⟩
  |succ i=>simp at h1 h2;simpa using ih i o' f a h1 h2
 |@xcall o os σ τ fs xs v s' hw he hc hk hf hs hn h ih=>
  intro i o' f a h1 h2;cases i with
  |zero=>
   simp at h1 h2;subst h1;subst h2;have no:¬(Tb o a=true\/Zi o a=true\/Wc o a=true):=fun g=>by have:=(mV (T:=T) g).1;rw[hc]at this;cases this
   exact⟨fun hk _=>absurd (.inl hk) no,fun hk _=>absurd (.inr (.inl hk)) no,fun hk _=>absurd (.inr (.inr hk)) no⟩
  |succ i=>simp at h1 h2;simpa using ih i o' f a h1 h2
def lX1 {L:Nat->aB AO} {n e:Nat} {lo hi mx:Bool} {xs:aA AV} {out:Out} (h:doOp L lim n (.slc e lo hi mx) xs=some out):∃y,foot T (.slc e lo hi mx) xs={rd:=Sim.idOf y}/\Sim.idOf out.v=Sim.idOf y/\out.new=none:=by
 cases xs with
 |nil=>simp[doOp,Sim.sliceOp]at h
 |cons y ys=>
  refine⟨y,rfl,?_⟩;have h2:(Sim.sliceOp L e lo hi mx (y::ys)).map (fun v=>({v:=v}:Out))=some out:=h;clear h;rw[aB3]at h2;obtain⟨v,a,rfl⟩:=h2;refine⟨?_,rfl⟩;cases y<;>simp only[Sim.sliceOp]at a<;>(repeat' split at a)<;>first|(cases a;done)|(cases a;rfl)|(simp at a;done)|(simp at a;subst a;simp_all[Sim.idOf])
def Tr.touchS {os:aA Sim.Op1} {σ τ:St} {fs:aA Foot} (h:Tr T N dr lim os σ fs τ):∀(i:Nat) (o:Sim.Op1) (f:Foot) (a:Nat),os[i]? =some o->fs[i]? =some f->tkS o a=true->(os.drop (i+1)).all (sJ a)=true->eQ1 f τ a:=by
 induction h with
 |nil=>intro i o f a h;simp at h
 |skip hw h ih=>
  intro i o f a h1 h2 hk hb;cases i with
  |zero=>simp at h1 h2;subst h1;subst h2;exact .inl rfl
  |succ i=>simp at h1 h2;exact ih i o f a h1 h2 hk (by simpa using hb)
 |@op o os σ τ fs xs out hw he hc hd h ih=>
  intro i o' f a h1 h2 hk hb;cases i with
  |zero=>
   simp at h1 h2;subst h1;subst h2;unfold tkS at hk;split at hk;rename_i d q1 q2;rw[q1]at hd;obtain⟨y,e,g,j⟩:=lX1 (T:=T) hd;have hb:os.all (sJ a)=true:=by simpa using hb
   have c:∀z,(put σ.t o.dst out.v)[a]? =some z->z=out.v:=fun z b=>by
    rw[q2,aR3 hk]at b;simp only[put,aX3]at b;split at b
    grind
    grind
   refine .inr (fun z b=>?_);rw[h.keep hb]at b;have:=c z b;subst this;rw[q1];exact⟨by rw[e,g],by rw[e],tL j,by rw[e]⟩;cases hk
  |succ i=>simp at h1 h2;exact ih i o' f a h1 h2 hk (by simpa using hb)
 |@call o os σ τ fs xs v hw he hc hk' hf hs h ih=>
  intro i o' f a h1 h2 hk hb;cases i with
  |zero=>
   simp at h1 h2;subst h1;subst h2;unfold tkS at hk;split at hk;rename_i d q1 q2;rw[q1]at hc;cases hc;cases hk
  |succ i=>simp at h1 h2;exact ih i o' f a h1 h2 hk (by simpa using hb)
 |@ncall o os σ τ fs xs v s' hw he hc hf hk' hs hn h ih=>
  intro i o' f a h1 h2 hk hb;cases i with
  |zero=>
   simp at h1 h2;subst h1;subst h2;unfold tkS at hk;split at hk;rename_i d q1 q2;rw[q1]at hc;cases hc;cases hk
  |succ i=>simp at h1 h2;exact ih i o' f a h1 h2 hk (by simpa using hb)
 |@xcall o os σ τ fs xs v s' hw he hc hk' hf hs hn h ih=>
  intro i o' f a h1 h2 hk hb;cases i with
  |zero=>
   simp at h1 h2;subst h1;subst h2;unfold tkS at hk;split at hk;rename_i d q1 q2;rw[q1]at hc;cases hc;cases hk
  |succ i=>simp at h1 h2;exact ih i o' f a h1 h2 hk (by simpa using hb)
def oW {o:Sim.Op1} {d a:Nat} (h:eO1 o d=some a):o.guard=none/\o.dst=some a/\Wc o a=true/\∃ty es b zero g r,o.k=.append ty es b zero g/\o.xs=.t d::r:=by
 unfold eO1 at h;split at h;rename_i h1 h2 c e;split at h;rename_i hb;cases h;refine⟨e,c,?_,_,_,_,_,_,_,h1,by rw[h2,aR3 hb]⟩;unfold Wc;rw[h1,c];exact Nat.beq_refl _;cases h;cases h
def Tr.flow {os:aA Sim.Op1} {σ τ:St} {fs:aA Foot} (h:Tr T N dr lim os σ fs τ):∀(d a:Nat),vK os d a=true->∀z,τ.t[a]? =some z->∃y,σ.t[d]? =some y/\∀x∈Sim.idOf y,x∈Sim.idOf z:=by
 induction h with
 |nil=>
  intro d a hf z c;simp only[vK]at hf;rw[aR3 hf];exact⟨z,c,fun x f=>f⟩
 |@skip o os σ τ fs hw h ih=>
  intro d a hf z c;simp only[vK,aQ3,aA3]at hf;rcases hf with hf|hf;obtain⟨y,h1,h2⟩:=ih d a hf.2 z c;exact⟨y,by rw[<-h1];exact(nF hf.1).symm,h2⟩;split at hf;rename_i e hs;rw[(oW hs).1]at hw;simp[Sim.wanted]at hw;cases hf
 |@op o os σ τ fs xs out hw he hc hd h ih=>
  intro d a hf z c;simp only[vK,aQ3,aA3]at hf;rcases hf with hf|hf;obtain⟨y,h1,h2⟩:=ih d a hf.2 z c;exact⟨y,by rw[<-h1];exact(nF hf.1).symm,h2⟩;split at hf;rename_i e hs;obtain⟨q1,q2,q3,ty,es,b,zero,g,r,q4,q5⟩:=oW hs;obtain⟨k,h1,h2⟩:=ih e a hf z c;obtain⟨l,j,m,n⟩:=La (T:=T) q3 hd
  have hv:k=out.v:=by
   have c:=h1;simp only at c;rw[q2]at c;simp only[put,aX3]at c;split at c
   grind
   grind
  subst hv;rw[q5]at he;obtain⟨y,ys,rfl,i,e2⟩:=Zk he;refine⟨y,i,fun x f=>h2 x (j x ?_)⟩;rw[q4]at hd ⊢;rcases ys with _|⟨w,_|⟨w2,ws⟩⟩
  simp[doOp]at hd;exact f;simp[doOp]at hd;cases hf
 |@call o os σ τ fs xs v hw he hc hk hff hs h ih=>
  intro d a hf z c;simp only[vK,aQ3,aA3]at hf;rcases hf with hf|hf;obtain⟨y,h1,h2⟩:=ih d a hf.2 z c;exact⟨y,by rw[<-h1];exact(nF hf.1).symm,h2⟩;split at hf;rename_i e hs;have:=(mV (T:=T) (.inr (.inr (oW hs).2.2.1))).1;rw[hc]at this;cases this;cases hf
 |@ncall o os σ τ fs xs v s' hw he hc hff hk hs hn h ih=>
  intro d a hf z c;simp only[vK,aQ3,aA3]at hf;rcases hf with hf|hf;obtain⟨y,h1,h2⟩:=ih d a hf.2 z c;exact⟨y,by rw[<-h1];exact(nF hf.1).symm,h2⟩;split at hf;rename_i e hs;have:=(mV (T:=T) (.inr (.inr (oW hs).2.2.1))).1;rw[hc]at this;cases this;cases hf
 |@xcall o os σ τ fs xs v s' hw he hc hk hff hs hn h ih=>
  intro d a hf z c;simp only[vK,aQ3,aA3]at hf;rcases hf with hf|hf;obtain⟨y,h1,h2⟩:=ih d a hf.2 z c;exact⟨y,by rw[<-h1];exact(nF hf.1).symm,h2⟩;split at hf;rename_i e hs;have:=(mV (T:=T) (.inr (.inr (oW hs).2.2.1))).1;rw[hc]at this;cases this;cases hf
def Tr.touchL {os:aA Sim.Op1} {σ τ:St} {fs:aA Foot} (h:Tr T N dr lim os σ fs τ):∀(i:Nat) (o:Sim.Op1) (f:Foot) (a:Nat),os[i]? =some o->fs[i]? =some f->tkL os o i a=true->lW1 f τ a:=by
 induction h with
 |nil=>intro i o f a h;simp at h
 |skip hw h ih=>
  intro i o f a h1 h2 hk;cases i with
  |zero=>simp at h1 h2;subst h1;subst h2;exact .inl rfl
  |succ i=>simp at h1 h2;exact ih i o f a h1 h2 (by simpa[tkL]using hk)
 |@op o os σ τ fs xs out hw he hc hd h ih=>
  intro i o' f a h1 h2 hk;cases i with
  |zero=>
   simp at h1 h2;subst h1;subst h2;unfold tkL at hk;split at hk;rename_i d g;simp only[aA3,List.drop_succ_cons,bZ3]at hk;obtain⟨l,m,j,p⟩:=La (T:=T) hk.1 hd;refine .inr (fun z e=>?_);obtain⟨y,n,k⟩:=h.flow d a hk.2 z e
   have hv:y=out.v:=by
    have e:=n;simp only at e;rw[g]at e;simp only[put,aX3]at e;split at e
    grind
    grind
   subst hv;refine⟨l,fun x c=>k x (m x c),fun x c=>k x ?_⟩;rcases j with j|j;have:=tL (s:=σ.s) j;simp only at c;rw[this]at c;simp at c;cases hn:out.new with
   |none=>
    have:=tL (s:=σ.s) hn;simp only at c;rw[this]at c;simp at c
   |some w=>
    simp only at c;rw[uB hn]at c;rw[j];exact c
   cases hk
  |succ i=>simp at h1 h2;exact ih i o' f a h1 h2 (by simpa[tkL]using hk)
 |@call o os σ τ fs xs v hw he hc hk hf hs h ih=>
  intro i o' f a h1 h2 b;cases i with
  |zero=>
   simp at h1 h2;subst h1;subst h2;unfold tkL at b;split at b;simp only[aA3]at b;have:=(mV (T:=T) (.inr (.inr b.1))).1;rw[hc]at this;cases this;cases b
  |succ i=>simp at h1 h2;exact ih i o' f a h1 h2 (by simpa[tkL]using b)
 |@ncall o os σ τ fs xs v s' hw he hc hf hk hs hn h ih=>
  intro i o' f a h1 h2 b;cases i with
  |zero=>
   simp at h1 h2;subst h1;subst h2;unfold tkL at b;split at b;simp only[aA3]at b;have:=(mV (T:=T) (.inr (.inr b.1))).1;rw[hc]at this;cases this;cases b
  |succ i=>simp at h1 h2;exact ih i o' f a h1 h2 (by simpa[tkL]using b)
 |@xcall o os σ τ fs xs v s' hw he hc hk hf hs hn h ih=>
  intro i o' f a h1 h2 b;cases i with
  |zero=>
   simp at h1 h2;subst h1;subst h2;unfold tkL at b;split at b;simp only[aA3]at b;have:=(mV (T:=T) (.inr (.inr b.1))).1;rw[hc]at this;cases this;cases b
  |succ i=>simp at h1 h2;exact ih i o' f a h1 h2 (by simpa[tkL]using b)
def Pf (τ:St) (p:Nat×Nat×Nat×Nat):Prop:=∃y z,τ.t[p.2.2.1]? =some y/\τ.t[p.2.2.2]? =some z/\∀x∈Sim.idOf y,x∉Sim.idOf z
def kZ2 (σ τ:St) (p:Nat×Nat×Nat×Nat):Prop:=∃z,τ.t[p.2.2.2]? =some z/\∀x∈Sim.idOf z,x<σ.s.n
def Tr.alge {os:aA Sim.Op1} {σ τ:St} {fs:aA Foot} (h:Tr T N dr lim os σ fs τ):∀f∈fs,∀x∈f.al,σ.s.n<=x:=by
 induction h with
 |nil=>intro f hf;simp at hf
 |skip hw h ih=>
  intro f hf x a;rcases aM3.1 hf with rfl|hf;simp at a;exact ih f hf x a
 |@op o os σ τ fs xs out hw he hc hd h ih=>
  intro f hf x a;rcases aM3.1 hf with rfl|hf
  grind
  have:=ih f hf x a
  have h2:σ.s.n<=(out.apply σ.s).n:=by
   unfold Out.apply;cases out.new<;>simp
  exact bB3 h2 this
 |call hw he hc hk hf hs h ih=>
  intro f hf x a;rcases aM3.1 hf with rfl|hf;simp at a;exact ih f hf x a
 |@ncall o os σ τ fs xs v s' hw he hc hf hk hs hn h ih=>
  intro f hf x a;rcases aM3.1 hf with rfl|hf
  grind
  grind
 |@xcall o os σ τ fs xs v s' hw he hc hk hf hs hn h ih=>
  intro f hf x a;rcases aM3.1 hf with rfl|hf
  grind
  grind
def nT {f g:Foot} {τ:St} {p:Nat×Nat×Nat×Nat} (h:(eQ1 f τ p.2.2.1/\aQ2 g τ p.2.2.2)\/(lW1 f τ p.2.2.1/\eQ1 g τ p.2.2.2)) (m:Pf τ p):Sim.compat0 f g=true:=by
 obtain⟨y,z,hy,l,hd⟩:=m;rcases h with⟨h1,h2⟩|⟨h1,h2⟩
 rcases h2 with rfl|h2;rcases h1 with rfl|h1;rfl;obtain⟨a,b,c,d⟩:=h1 y hy;simp[Sim.compat0,b,c,d];obtain⟨a',b',k,j⟩:=h2 z l;rcases h1 with rfl|h1;simp[Sim.compat0,j];obtain⟨a,b,c,d⟩:=h1 y hy;have:∀x∈g.wr,x∉f.rd:=fun x i e=>by rw[a]at e;rw[a']at i;exact hd x e i
 simpa[Sim.compat0,b,c,d,b',k,j]using this;rcases h2 with rfl|h2;rcases h1 with rfl|h1;rfl;obtain⟨a,b,c⟩:=h1 y hy;simp[Sim.compat0,a];obtain⟨a',b',k,j⟩:=h2 z l;rcases h1 with rfl|h1;simp[Sim.compat0,j];obtain⟨a,b,c⟩:=h1 y hy;have n:∀x∈f.wr,x∉g.rd:=fun x i e=>by rw[a']at e;exact hd x (b x i) e
 have o:∀x∈f.al,x∉g.rd:=fun x i e=>by rw[a']at e;exact hd x (c x i) e
 simpa[Sim.compat0,a,b',k,j]using And.intro n o
def Zl {f g:Foot} {τ:St} {p:Nat×Nat×Nat×Nat} (h1:eQ1 f τ p.2.2.1) (h2:lW1 g τ p.2.2.2) (j:Pf τ p):Sim.compat0 f g=true:=by
 obtain⟨y,z,hy,h,hd⟩:=j;rcases h1 with rfl|h1;rcases h2 with rfl|h2;rfl;obtain⟨a',b',i⟩:=h2 z h;simp[Sim.compat0,a'];obtain⟨a,b,c,d⟩:=h1 y hy;rcases h2 with rfl|h2;simp[Sim.compat0,b,c,d];obtain⟨a',b',i⟩:=h2 z h;have:∀x∈g.wr,x∉f.rd:=fun x k e=>by rw[a]at e;exact hd x e (b' x k)
 simpa[Sim.compat0,b,c,d,a']using this
def Td {ks before:aA Nat} {ex:aA (Nat×Nat×Nat×Nat)} (h:Wg ks before ex=true):∀(i l k k':Nat),i<l->ks[i]? =some k->ks[l]? =some k'->((before.getD l 0).testBit i=true\/mN k k'=true)\/∃p∈ex,p.1=i/\p.2.1=l:=by
 intro i l k k' a hi hl;simp only[Wg,aD3,dR3,aQ3,List.any_eq_true,aA3]at h;rcases h l (zZ2.1 hl).1 i a with h1|⟨p,h1,h2,h3⟩
 grind
 exact .inr ⟨p,h1,aR3 h2,aR3 h3⟩
def Tr.drawX (E:dr≠0) {before:aA Nat} {ex:aA (Nat×Nat×Nat×Nat)} {os:aA Sim.Op1} {σ τ:St} {fs:aA Foot} (h:Tr T N dr lim os σ fs τ) (V:Wg (os.map fun o=>lO N dr o.k) before ex=true)
  (O:ex.all (Zj os)=true) (g:∀p∈ex,if p.2.2.1=999999 then dr=5/\kZ2 σ τ p else Pf τ p) (B:dr=5->eN1 (os.map fun o=>lO N dr o.k)=true):
  ∃D,∀d,D<=d->∃J,eU T (exec T d) lim before os 0 [] σ=some (τ,J)/\Sim.drawOK before J J.length=true:=by
 let ft:Nat->Foot:=fun i=>fs.getD i {}
 have m:∀i,i<fs.length->fs[i]? =some (ft i):=fun i hi=>by simp[ft,hi]
 obtain⟨hl,r⟩:=h.feet E;have sp:=Td V;have u:∀(i:Nat) (o:Sim.Op1),os[i]? =some o->(os.map fun o=>lO N dr o.k)[i]? =some (lO N dr o.k):=fun i o U=>by simp[U]
 have w:∀p∈ex,∃o q,os[p.1]? =some o/\os[p.2.1]? =some q/\Zj os p=true:=by
  intro p hp;have:=aD3.1 O p hp;have h2:=this;unfold Zj at h2;cases hb:Nat.beq p.2.2.1 999999 with
  |true=>
   rw[hb,aL3]at h2;unfold Wd at h2;split at h2
   .rename_i o q s K;exact⟨o,q,s,K,this⟩
   .cases h2
  |false=>
   rw[hb,aV3]at h2;unfold We at h2;split at h2
   .rename_i o q s K;exact⟨o,q,s,K,this⟩
   .cases h2
 obtain⟨D,hD⟩:=Tr.foot E (before:=before) (ks:=os.map fun o=>lO N dr o.k) h 0 ft (fun i hi=>by rw[bX3];exact m i hi) (fun i o U=>by rw[bX3];exact u i o U)
  (fun i l k k' P h1 h2 R=>by
   rcases sp i l k k' P h1 h2 with s|⟨p,hp,rfl,rfl⟩
   .exact s
   .exfalso
    obtain⟨o,q,t,e2,f⟩:=w p hp;rw[u _ _ e2]at h2;cases h2
    have hh:Tb q p.2.2.2=true\/Zi q p.2.2.2=true\/Wc q p.2.2.2=true:=by
     unfold Zj at f;cases hb:Nat.beq p.2.2.1 999999 with
     |true=>
      rw[hb,aL3]at f;unfold Wd at f;rw[t,e2]at f;simp only[aA3]at f;exact .inl f.2.1
     |false=>
     rw[hb,aV3]at f;unfold We at f;rw[t,e2]at f;simp only[aA3,aQ3]at f;rcases f with(f|f)|f
     .rcases f.2 with((h|h)|h)|h
      .exact .inr (.inl h.2)
      .exact .inl h.2
      .exact .inl h.2
      .exact .inl h.2
     .exact .inr (.inr f.2.1)
     .exact .inr (.inl f.2.1)
    have hc:=(mV (T:=T) hh).1;revert R hc;cases q.k
    case len n=>simp only[lO];cases Nat.beq n 2<;>simp
    all_goals simp[lO,jG]) (fun i k hi=>by omega) (fun i hi=>by omega) (fun L=>zT (B L))
 refine⟨D,fun d hd=>⟨_,hD d hd,?_⟩⟩;rw[bX3,Sim.revF_length];refine zS (fun j hj i hi=>?_);have Z:os[j]? =some os[j]:=by simp
 have oi:os[i]? =some (os[i]'(by omega)):=by simp
 rcases sp i j _ _ hi (u i _ oi) (u j _ Z)with(h1|h1)|⟨p,hp,rfl,rfl⟩
 .exact .inl h1
 .right
  exact Iz (rP _ _ _) (rP _ _ _) h1 (r i _ _ oi (m i (by omega))) (r j _ _ Z (m j (by omega)))
 .right
  obtain⟨o,q,t,e2,f⟩:=w p hp;have g:=g p hp;unfold Zj at f;cases hb:Nat.beq p.2.2.1 999999 with
  |true=>
   rw[hb,aL3]at f;rw[aE3 (aR3 hb)]at g;obtain⟨L,z,H,S⟩:=g;unfold Wd at f;rw[t,e2]at f;simp only[aA3]at f;obtain⟨e4,e5,e6⟩:=f;have hf:=r p.1 o _ t (m p.1 (by omega));have hg:=(h.touch p.2.1 q _ p.2.2.2 e2 (m p.2.1 (by omega))).1 e5 e6;have W:=zT (B L) p.1 _ (u p.1 o t)
   obtain⟨f1,Y,f3⟩|hf0:((ft p.1).rd=[]/\(ft p.1).wr=[]/\(ft p.1).all=1)\/ft p.1={}:=by
    rcases eK1 (N:=N) (dr:=dr) e4 with C|C|C
    .rw [C]at hf
     rcases hf with hf|hf
     .exact .inr hf
     .have hf:ft p.1={all:=1,x:=true}:=hf
      rw[hf];exact .inl ⟨rfl,rfl,rfl⟩
    .exact absurd C W
    .rw [C]at hf
     rcases hf with hf|hf
     .exact .inr hf
     .exact .inl ⟨hf.1,hf.2.1,hf.2.2.1⟩
   rotate_left
   .rw [hf0];rfl
   .refine jF ?_
    rcases hg with hg|hg
    .rw [hg];simp[Sim.compat0,Y,f3]
    .obtain ⟨a,b,c,d⟩:=hg z H
     have:∀x∈(ft p.1).al,x∉(ft p.2.1).rd:=fun x w G=>by
      rw[a]at G;have h8:=S x G;have h9:=h.alge _ (aJ3 (m p.1 (by omega))) x w;omega
     simpa[Sim.compat0,f1,Y,f3,b,c,d]using this
  |false=>
  rw[hb,aV3]at f;rw[aG3 (fun e=>by rw[e]at hb;cases hb)]at g;have g:∀q,q=p->Pf τ q:=fun q hq=>by rw[hq];exact g
  have hp:p=p:=rfl;unfold We at f;rw[t,e2]at f;simp only[aA3,aQ3]at f;have X:=h.touch p.1 o _ p.2.2.1 t (m p.1 (by omega));have A:=h.touch p.2.1 q _ p.2.2.2 e2 (m p.2.1 (by omega));rcases f with(f|f)|f
  case inr.false.inr=>exact jF<|nT (.inl ⟨h.touchS p.1 o _ p.2.2.1 t (m p.1 (by omega)) f.1.1 f.1.2,A.2.1 f.2.1 f.2.2⟩) (g p hp)
  case inr.false.inl.inr=>exact jF<|Zl (X.1 f.1.1 f.1.2) (A.2.2 f.2.1 f.2.2) (g p hp)
  rcases f.2 with((⟨⟨h1,h2⟩,s⟩|⟨⟨h1,h2⟩,s⟩)|⟨⟨h1,h2⟩,s⟩)|⟨h1,s⟩
  .exact jF<|nT (.inl ⟨X.1 h1 h2,A.2.1 s f.1⟩) (g p hp)
  .exact jF<|nT (.inr ⟨X.2.2 h1 h2,A.1 s f.1⟩) (g p hp)
  .have M:=aR3 h1
   obtain⟨y,z,hy,H,hd⟩:=g p hp;rw[M]at hy;rw[hy]at H;cases H;have F:Sim.idOf y=[]:=List.eq_nil_iff_forall_not_mem.2 (fun x w=>hd x w w)
   have v:(ft p.1).all=0:=by
    have hf:=r p.1 o _ t (m p.1 (by omega));unfold tkM at h2;unfold oV at hf;split at h2
    .rename_i hk
     rw[hk]at hf;rcases hf with hf|hf
     .rw [hf]
     .exact hf.2.2
    .rename_i hk
     rw[hk]at hf;rcases hf with hf|hf
     .rw [hf]
     .exact hf
    .cases h2
   rcases A.1 s f.1 with hg|hg
   .refine jF ?_
    rw[hg];simp[Sim.compat0,v]
   .obtain ⟨a,b,c,d⟩:=hg y hy
    rw[F]at a;refine jF ?_;simp[Sim.compat0,v,a,b,c,d]
  .exact jF<|nT (.inr ⟨h.touchL p.1 o _ p.2.2.1 t (m p.1 (by omega)) h1,A.1 s f.1⟩) (g p hp)
end
end Go.P
namespace Go.P
open Go.Sim (AV AO Hp gN upd St IC IX Ex gC CK Wf Out doOp kG exec mapO nY Bi Rf)
def Ca {A:Type} {f:A->aB A}:∀{l:aA A},(∀x∈l,f x=some x)->mapO f l=some l
 |[],_=>rfl
 |a::as,h=>by
  have h1:=h a (List.mem_cons_self ..)
  have h2:=Ca (f:=f) (l:=as) (fun x b=>h x (bJ3 _ b))
  simp only[mapO,h1,h2]
section
variable {L:Nat->Option AO} {n0:Nat}
def tM {x:PV} {y:AV} {d:Nat} (h:RC true x y):nY L n0 (d+1) y=some y:=by
 cases h<;>rfl
def Lb {Q:PV->AV->Prop} {xs:aA PV} {ys:aA AV} (h:LR Q xs ys) {y:AV} (hy:y∈ys):∃x,x∈xs/\Q x y:=by
 obtain⟨j,a⟩:=aS3.1 hy;have b:j<xs.length:=by rw[h.1];exact(zZ2.1 a).1
 exact⟨xs[j],by simp,h.2 j _ y (by simp) a⟩
def Ja {xs:aA PV} {ys:aA AV} {d:Nat} (h:LR (RC true) xs ys):mapO (nY L n0 (d+1)) ys=some ys:=
 Ca fun y hy=>by
  obtain⟨x,_,a⟩:=Lb h hy
  exact tM a
def lY1 {rows:aA (aA PV)} {els:aA (aA AV)} {d:Nat} (h:RR rows els):mapO (fun row=>mapO (nY L n0 (d+1)) row) els=some els:=
 Ca fun r hr=>by
  obtain⟨j,a⟩:=aS3.1 hr
  have b:j<rows.length:=by rw[h.1];exact(zZ2.1 a).1
  exact Ja (h.2 j rows[j] r (by simp) a)
def Wh {rows:aA (aA PV)} {els:aA (aA AV)} {d e id ver:Nat} {bx:Bool} {ty:TypeId} (hn:n0<=id) (a:L id=some (.arr bx ty e ver els)) (hr:RR rows (els.take rows.length)) (b:rows.length<=els.length):
  nY L n0 (d+2) (.sl e id ver 0 rows.length none)=some (.is e (els.take rows.length)):=by
 have hc:n0<=id/\ver=ver/\0+rows.length<=els.length:=⟨hn,rfl,by omega⟩
 show(match L id with
   |some (.arr _ _ e ver' els)=>
    if n0<=id/\ver'=ver/\0+rows.length<=els.length then(mapO (fun row=>mapO (nY L n0 (d+1)) row) ((els.drop 0).take rows.length)).map fun rows=>AV.is e rows else none
   |_=>none)=_
 rw[a];show(if n0<=id/\ver=ver/\0+rows.length<=els.length then(mapO (fun row=>mapO (nY L n0 (d+1)) row) ((els.drop 0).take rows.length)).map fun rows=>AV.is e rows else none)=_
 rw[aE3 hc,bZ3,lY1 hr];rfl
def eR1 {Q Q':PV->AV->Prop} {f:AV->aB AV} (hf:∀x y,Q x y->∃b,f y=some b/\Q' x b):∀{xs:aA PV} {ys:aA AV},LR Q xs ys->∃a,mapO f ys=some a/\LR Q' xs a
 |[],ys,h=>by rw[h.inv_nil];exact⟨[],rfl,.nil⟩
 |x::xs,ys,h=>by
  obtain⟨y,a,rfl,h1,h2⟩:=h.inv_cons
  obtain⟨b,c,d⟩:=hf x y h1
  obtain⟨zs,e,g⟩:=eR1 hf h2
  exact⟨b::zs,by simp only[mapO,c,e],.cons d g⟩
def eS1 {z:Nat->aB AO} {d:Nat} {f:AV->aB AV} (hf:∀x y,RZ z d x y->∃g,f y=some g/\RC true x g):∀{rows:aA (aA PV)} {els:aA (aA AV)},Is z d rows els->∃c,mapO (fun row=>mapO f row) els=some c/\RR rows c
 |[],els,h=>by
  have:els=[]:=cF3 h.1.symm
  subst this
  exact⟨[],rfl,.nil⟩
 |r::rows,[],h=>by have:=h.1;simp at this
 |r::rows,e::els,h=>by
  obtain⟨e',k,l⟩:=eR1 hf (h.2 0 r e rfl rfl)
  obtain⟨es',m,n⟩:=eS1 hf (rows:=rows) (els:=els) ⟨by simpa using h.1,fun i a b j hb=>h.2 (i+1) a b (by simpa using j) (by simpa using hb)⟩
  exact⟨e'::es',by simp only[mapO,k,m],.cons l n⟩
def Wi {z:Nat->aB AO} (g:∀id o,z id=some o->n0<=id/\L id=some o):∀(d f:Nat),d<f->∀(x:PV) (y:AV),RZ z d x y->∃j,nY L n0 f y=some j/\RC true x j
 |0,f+1,_,x,y,h=>⟨y,tM h,h⟩
 |d+1,f+1,hd,x,y,h=>by
  rcases h with h|⟨e,rows,id,ver,ty,els,rfl,rfl,h3,h4,h5⟩
  exact⟨y,tM h,h⟩
  have ih:=Wi g d f (by omega)
  have hr:Is z d rows (els.take rows.length):=⟨by simp[cI3 h4],fun i r r' a b=>h5 i r r' a (by
   rw[aY3]at b
   split at b
   exact b
   cases b)⟩
  obtain⟨c,k,l⟩:=eS1 (f:=nY L n0 f) (fun x y h=>ih x y h) hr
  obtain⟨z1,z2⟩:=g id _ h3
  refine⟨.is e c,?_,l.is⟩
  show(match L id with
   |some (.arr _ _ e ver' els)=>
    if n0<=id/\ver'=ver/\0+rows.length<=els.length then(mapO (fun row=>mapO (nY L n0 f) row) ((els.drop 0).take rows.length)).map fun rows=>AV.is e rows else none
   |_=>none)=_
  rw[z2]
  show(if n0<=id/\ver=ver/\0+rows.length<=els.length then(mapO (fun row=>mapO (nY L n0 f) row) ((els.drop 0).take rows.length)).map fun rows=>AV.is e rows else none)=_
  rw[aE3 ⟨z1,rfl,by omega⟩,bZ3,k]
  rfl
def tM1 {z:Nat->aB AO} (c:∀id o,z id=some o->n0<=id/\L id=some o) {d f e id ver ty:Nat} {rows:aA (aA PV)} {els:aA (aA AV)} (hd:d<f) (hn:n0<=id) (b:L id=some (.arr false ty e ver els)) (hr:Is z d rows els):
  ∃a,nY L n0 (f+1) (.sl e id ver 0 rows.length none)=some (.is e a)/\RR rows a:=by
 obtain⟨a,g,i⟩:=eS1 (f:=nY L n0 f) (fun x y h=>Wi c d f hd x y h) hr;refine⟨a,?_,i⟩;have hl:=hr.1
 show(match L id with
  |some (.arr _ _ e ver' els)=>
   if n0<=id/\ver'=ver/\0+rows.length<=els.length then(mapO (fun row=>mapO (nY L n0 f) row) ((els.drop 0).take rows.length)).map fun rows=>AV.is e rows else none
  |_=>none)=_
 rw[b];show(if n0<=id/\ver=ver/\0+rows.length<=els.length then(mapO (fun row=>mapO (nY L n0 f) row) ((els.drop 0).take rows.length)).map fun rows=>AV.is e rows else none)=_
 rw[aE3 ⟨hn,rfl,by omega⟩,bZ3,hl,bU3,g];rfl
def eT1 {f:AV->aB AV}:∀{rows:aA (aA PV)} {els:aA (aA AV)},rows.length=els.length->(∀(i:Nat) (r:aA PV) (r':aA AV),rows[i]? =some r->els[i]? =some r'->LR (fun x y=>∃d,f y=some d/\RC true x d) r r')->∃c,mapO (fun row=>mapO f row) els=some c/\RR rows c
 |[],els,hl,h=>by
  have:els=[]:=cF3 hl.symm
  subst this
  exact⟨[],rfl,.nil⟩
 |r::rows,[],hl,h=>by simp at hl
 |r::rows,e::els,hl,h=>by
  obtain⟨e',j,k⟩:=eR1 (fun _ _ h=>h) (h 0 r e rfl rfl)
  obtain⟨es',l,m⟩:=eT1 (f:=f) (rows:=rows) (els:=els) (by simpa using hl) (fun i a b g hb=>h (i+1) a b (by simpa using g) (by simpa using hb))
  exact⟨e'::es',by simp only[mapO,j,l],.cons k m⟩
def Wj {p:TD->Bool}:∀{ks:aA (Nat×TD)} {j:Nat} {t:TD},(ks.all fun q=>p q.2)=true->gK ks j=some t->p t=true
 |[],_,_,_,h=>by cases h
 |(i,t')::r,j,t,ha,h=>by
  simp only[bY3,aA3]at ha
  unfold gK at h
  cases hb:Nat.beq i j with
  |true=>rw[hb]at h;cases h;exact ha.1
  |false=>rw[hb]at h;exact Wj ha.2 h
def eU1 {f e id ver len:Nat} {ty:TypeId} {els a:aA (aA AV)} (hn:n0<=id) (b:L id=some (.arr false ty e ver els)) (c:len<=els.length) (d:mapO (fun row=>mapO (nY L n0 f) row) (els.take len)=some a):
  nY L n0 (f+1) (.sl e id ver 0 len none)=some (.is e a):=by
 show(match L id with
  |some (.arr _ _ e ver' els)=>
   if n0<=id/\ver'=ver/\0+len<=els.length then(mapO (fun row=>mapO (nY L n0 f) row) ((els.drop 0).take len)).map fun rows=>AV.is e rows else none
  |_=>none)=_
 rw[b];show(if n0<=id/\ver=ver/\0+len<=els.length then(mapO (fun row=>mapO (nY L n0 f) row) ((els.drop 0).take len)).map fun rows=>AV.is e rows else none)=_
 rw[aE3 ⟨hn,rfl,by omega⟩,bZ3,d];rfl
def qL {A:Type} {l:aA A} {n i:Nat} {x:A} (h:(l.take n)[i]? =some x):l[i]? =some x:=by grind
def Pg {f:Nat} {ty e j:Nat} {ks:aA (Nat×TD)} {t:TD} (h:Hg f (.nd ty e ks)=true) (hk:gK ks j=some t):∃g,f=g+1/\Hg g t=true:=by
 cases f with
 |zero=>
  cases ks with
  |nil=>cases hk
  |cons a r=>simp[Hg]at h
 |succ g=>exact⟨g,rfl,Wj h hk⟩
def Ph {w:Nat->aB (Nat×Nat×Nat)} {lim nS:Nat} (hn:n0<=lim):∀{f d:Nat} {sl:Nat×Nat×Nat} {t:TD} {x:PV} {y:AV},Hg f t=true->fO L w lim nS d sl t x y->∃k,nY L n0 (f+2) y=some k/\RC true x k
 |_,0,_,_,_,_,_,h=>h.elim
 |f,d+1,sl,.nd ty e ks,x,y,ht,h=>by
  obtain⟨rows,rfl,h2⟩:=h
  rcases h2 with⟨rfl,rfl⟩|⟨id,ver,els,rfl,k2,k3,k4,kf,k5,⟨k6,_⟩,k7⟩
  exact⟨_,rfl,.isn⟩
  obtain⟨c,q1,q2⟩:=eT1 (f:=nY L n0 (f+1)) (rows:=rows) (els:=els.take rows.length) (by simp[cI3 k6]) (fun i r r' a b=>⟨(k7 i r r' a (qL b)).1,fun j x1 l a1 b1=>by
   have:=(k7 i r r' a (qL b)).2 j x1 l a1 b1
   cases hk:gK ks j with
   |none=>rw[hk]at this;exact⟨l,tM this,this⟩
   |some t=>
    rw[hk]at this
    obtain⟨g,rfl,hg⟩:=Pg ht hk
    exact Ph hn hg this⟩)
  exact⟨_,eU1 (bB3 hn k3) k5 k6 q1,q2.is⟩
def tN1 {C:Cx} {lim nS d id f e ver ty:Nat} {ks:aA (Nat×TD)} {rows:aA (aA PV)} {els:aA (aA AV)} (hn:n0<=lim) (hl:lim<=id) (m:Hg f (.nd ty e ks)=true) (l:L id=some (.arr false ty e ver els)) (h:rows.length<=els.length)
  (hr:∀(i:Nat) (r:aA PV) (r':aA AV),rows[i]? =some r->els[i]? =some r'->r.length=r'.length/\∀(j:Nat) (a:PV) (b:AV),r[j]? =some a->r'[j]? =some b->TC C L lim nS d id ks [] i j a b):
  ∃c,nY L n0 (f+2) (.sl e id ver 0 rows.length none)=some (.is e c)/\RR rows c:=by
 obtain⟨c,q1,q2⟩:=eT1 (f:=nY L n0 (f+1)) (rows:=rows) (els:=els.take rows.length) (by simp[cI3 h]) (fun i r r' a b=>⟨(hr i r r' a (qL b)).1,fun j x1 k a1 b1=>by
  have:=(hr i r r' a (qL b)).2 j x1 k a1 b1;unfold TC at this;cases hk:gK ks j with
  |none=>rw[hk]at this;exact⟨k,tM this,this⟩
  |some t=>
   rw[hk]at this;obtain⟨g,rfl,hg⟩:=Pg m hk;rcases this with⟨⟨x,n⟩,_⟩|⟨_,this⟩
   cases n;exact Ph hn hg this⟩)
 exact⟨c,eU1 (bB3 hn hl) l h q1,q2⟩
def lZ1 {d id ver e o:Nat} {bx:Bool} {ty:TypeId} {esz:Nat} {els:aA (aA AV)} {row:aA AV} (a:L id=some (.arr bx ty esz ver els)) (hr:els[e]? =some row):Bi L (d+1) (.ptr id ver e o)=(mapO (Bi L d) (row.drop o)).map AV.ip:=by
 simp[Bi,a,hr]
def wM1 {d:Nat} {f:FuncId} {a b a' b':aA AV} (h1:mapO (Bi L d) a=some a') (h2:mapO (Bi L d) b=some b'):Bi L (d+1) (.fn (.func f) a b)=some (.fn (.func f) a' b'):=by
 simp[Bi,h1,h2]
def mA1 {d:Nat} {a a':aA AV} (h1:mapO (Bi L d) a=some a'):Bi L (d+1) (.agg a)=some (.agg a'):=by
 simp[Bi,h1]
def tO1 {x:PV} {y:AV} (h:RK x y):Rf L n0 y=some y:=by
 rcases h with h|⟨cs,cs',rfl,rfl,h⟩
 cases h<;>rfl;simp only[Rf,Ja h,aU3]
def eV1 {es:aA (PV×PV)} {es':aA (AV×AV)} (h:EM es es'):mapO (fun(k,x)=>match Rf L n0 k,Rf L n0 x with|some k,some x=>some (k,x)|_,_=>none) es'=some es':=
 Ca fun p hp=>by
  obtain⟨j,c⟩:=aS3.1 hp
  have d:j<es.length:=by rw[h.1];exact(zZ2.1 c).1
  obtain⟨h1,h2⟩:=h.2 j es[j] p (by simp) c
  obtain⟨a,b⟩:=p
  simp only[tO1 h1,tO1 h2]
end
section
variable {R:Type} {C:Cx} {n:Nat} {h:aY} {lim:Nat} {s:Hp}
def Jb:∀{d:Nat} {x:PV} {y:AV},dY d x=true->RC false x y->Sim.closed d y=true
 |0,_,_,h,_=>by simp[dY]at h
 |d+1,x,y,hc,hr=>by
  have all:∀{xs:aA PV} {ys:aA AV},xs.all (dY d)=true->LR (RC false) xs ys->ys.all (Sim.closed d)=true:=by
   intro xs ys c hl;rw[aD3];intro y hy;obtain⟨x,a,b⟩:=Lb hl hy;exact Jb (aD3.1 c x a) b
  cases hr with
  |fn h1 h2 v1 v2=>
   simp only[dY,aA3]at hc;simp only[Sim.closed,aA3];exact⟨all hc.1 ⟨h1,v1⟩,all hc.2 ⟨h2,v2⟩⟩
  |agg hl hcc=>
   simp only[dY]at hc;simp only[Sim.closed];exact all hc ⟨hl,hcc⟩
  |tup hl hcc=>
   simp only[dY]at hc;simp only[Sim.closed];exact all hc ⟨hl,hcc⟩
  |_=>rfl
def FzR (L:Nat->aB AO) (d:Nat) (a:PV) (y:AV):Prop:=∃b,Bi L d y=some b/\RC false a b/\∀D,Sim.closed D y=true->RC false a y
def Wk (p:dK C n h lim s):∀(d:Nat) (x:PV) (y:AV) (K:PV->aB R) (r:R),Kq h d x K=some r->RV C x y->∃O,K O=some r/\FzR (Sim.look s.h) (d+1) O y
 |0,x,y,K,r,hk,_=>by unfold Kq at hk;exact aE hk
 |d+1,x,y,K,r,hk,hv=>by
  have i:∀(xs:aA PV) (ys:aA AV) (K:aA PV->aB R) (r:R),uY (Kq h d) xs K=some r->LR (RV C) xs ys->
    ∃xs' l,K xs'=some r/\mapO (Bi (Sim.look s.h) (d+1)) ys=some l/\LR (RC false) xs' l/\((∀y∈ys,∃D,Sim.closed D y=true)->LR (RC false) xs' ys):=by
   intro xs
   induction xs with
   |nil=>
    intro ys K r hk hl;rw[hl.inv_nil];unfold uY at hk;exact⟨[],[],hk,rfl,.nil,fun _=>.nil⟩
   |cons a as ih=>
    intro ys K r hk hl;obtain⟨y,l,rfl,h1,h2⟩:=hl.inv_cons;unfold uY at hk;obtain⟨a',A,b',u,P,S⟩:=Wk p d a y _ r hk h1;obtain⟨H,J,q1,q2,q3,q4⟩:=ih l _ r A h2;refine⟨a'::H,b'::J,q1,by simp only[mapO,u,q2],.cons P q3,fun hc=>?_⟩;obtain⟨D,c⟩:=hc y (by simp);exact .cons (S D c) (q4 fun z w=>hc z (by simp[w]))
  unfold Kq at hk;cases x with
  |own k=>
   simp only[gV,zY2]at hk;obtain⟨ob,hg,hk⟩:=hk;cases ob with
   |lst ty e g rows=>
    refine⟨_,hk,?_⟩;rcases iQ hv with⟨id,ver,F,len,j,rfl⟩|⟨j,rfl⟩
    obtain⟨_,rfl,hlen,els,q,hr,B,_⟩:=lX p hg j;subst hlen;refine⟨.is F (els.take rows.length),?_,hr.is,fun D c=>by cases D<;>simp[Sim.closed]at c⟩;exact Wh (d:=4) (bL3 _) q hr B.1;have:=nR p hg j;subst this;exact⟨_,rfl,.isn,fun _ _=>.isn⟩
   |lz ty e dp rows=>
    cases hb:Nat.ble dp 4 with
    |false=>simp only[hb,aV3]at hk;exact aE hk
    |true=>
    simp only[hb,aL3]at hk;have hb:=aI3 hb;refine⟨_,hk,?_⟩;rcases iQ hv with⟨id,ver,F,len,j,rfl⟩|⟨j,rfl⟩
    obtain⟨_,_,rfl,hlen,_,els,q,hr⟩:=Ez p hg j;subst hlen;obtain⟨m,A,u⟩:=tM1 (n0:=0) (f:=5) (fun id o w=>⟨bL3 _,(p.hr.zr id o w).1⟩) (by omega) (bL3 _) q hr;exact⟨.is F m,A,u.is,fun D c=>by cases D<;>simp[Sim.closed]at c⟩;have:=Fa p hg j;subst this;exact⟨_,rfl,.isn,fun _ _=>.isn⟩
   |tr t rows hs=>
    obtain⟨ty,e,ks⟩:=t;cases hs with
    |cons a b=>exact aE hk
    |nil=>
    cases hb:Hg 4 (.nd ty e ks)with
    |false=>simp only[hb,aV3]at hk;exact aE hk
    |true=>
    simp only[hb,aL3]at hk;refine⟨_,hk,?_⟩;rcases iQ hv with⟨id,ver,F,len,j,rfl⟩|⟨j,rfl⟩
    obtain⟨G,_,rfl,hlen,_,els,d,q,B,hr⟩:=lY p hg j;subst hlen;obtain⟨m,A,u⟩:=tN1 (n0:=0) (f:=4) (bL3 _) G hb q B.1 hr;exact⟨.is F m,A,u.is,fun D c=>by cases D<;>simp[Sim.closed]at c⟩;have:=(tK p hg j).1;subst this;exact⟨_,rfl,.isn,fun _ _=>.isn⟩
   |_=>exact aE hk
  |zs dp e rows=>
   cases hb:Nat.ble dp 5 with
   |false=>simp only[hb,aV3]at hk;exact aE hk
   |true=>
   simp only[hb,aL3]at hk;have hb:=aI3 hb;refine⟨_,hk,?_⟩;have w:=Iu hv;obtain⟨U,A,u⟩:=Wi (L:=Sim.look s.h) (n0:=0) (fun id o w=>⟨bL3 _,(p.hr.zr id o w).1⟩) dp 6 (by omega) _ _ w;rcases Iv w with(⟨rows',rfl,hr⟩|⟨rfl,rfl⟩)|⟨d',id,ver,ty,els,_,rfl,_,_,_⟩
   exact⟨_,rfl,hr.is,fun _ _=>hr.is⟩;exact⟨_,rfl,.isn,fun _ _=>.isn⟩;exact⟨U,A,u.weak,fun D c=>by cases D<;>simp[Sim.closed]at c⟩
  |map k=>
   simp only[gV,zY2]at hk;obtain⟨ob,hg,hk⟩:=hk;cases ob with
   |mp es=>
    refine⟨_,hk,?_⟩;obtain⟨id,ver,e,len,j,rfl⟩:=Ew hv;obtain⟨_,es',q,he⟩:=Vx p hg j;refine⟨.im es',?_,he.er.im,fun D c=>by cases D<;>simp[Sim.closed]at c⟩;simp only[Bi,q];exact congrArg (Option.map AV.im) (eV1 he)
   |_=>exact aE hk
  |ref k o=>
   simp only[gV,zY2]at hk;obtain⟨ob,hg,hk⟩:=hk;cases ob with
   |box cs=>
    obtain⟨A,u⟩:=fP _ _ _ _ hk;obtain⟨id,ver,e,len,j,rfl⟩:=nE hv;obtain⟨_,ty,esz,row,q,hl⟩:=zP p hg j;obtain⟨xs',l,q1,q2,q3,_⟩:=i _ _ _ r u (hl.drop o);refine⟨_,q1,.ip l,?_,.ip q3.1 q3.2,fun D c=>by cases D<;>simp[Sim.closed]at c⟩;rw[lZ1 q rfl,q2];rfl
   |_=>exact aE hk
  |fn f a b=>
   obtain⟨a',b',rfl,h1,h2⟩:=xR hv;obtain⟨M,E,p1,p2,p3,p4⟩:=i _ _ _ r hk h1;obtain⟨T,N,q1,q2,q3,q4⟩:=i _ _ _ r p1 h2;refine⟨_,q1,.fn (.func f) E N,wM1 p2 q2,.fn p3.1 q3.1 p3.2 q3.2,fun D c=>?_⟩;cases D with
   |zero=>simp[Sim.closed]at c
   |succ D=>
    simp only[Sim.closed,aA3,aD3]at c;have w1:=p4 fun y hy=>⟨D,c.1 y hy⟩
    have w2:=q4 fun y hy=>⟨D,c.2 y hy⟩
    exact .fn w1.1 w2.1 w1.2 w2.2
  |agg cs=>
   obtain⟨cs',rfl,h1⟩:=pY hv;obtain⟨M,E,p1,p2,p3,p4⟩:=i _ _ _ r hk h1;refine⟨_,p1,.agg E,mA1 p2,.agg p3.1 p3.2,fun D c=>?_⟩;cases D with
   |zero=>simp[Sim.closed]at c
   |succ D=>
    simp only[Sim.closed,aD3]at c;have w1:=p4 fun y hy=>⟨D,c y hy⟩
    exact .agg w1.1 w1.2
  |v x=>
   rw[iE hv];exact⟨_,hk,_,rfl,.v x,fun _ _=>.v x⟩
  |is e rows=>
   refine⟨_,hk,?_⟩;rcases wB hv with⟨rows',rfl,hr⟩|⟨rfl,rfl⟩
   exact⟨_,rfl,hr.is,fun _ _=>hr.is⟩;exact⟨_,rfl,.isn,fun _ _=>.isn⟩
  |ip cs=>
   obtain⟨cs',rfl,hl⟩:=Ay hv;exact⟨_,hk,_,rfl,.ip hl.1 hl.2,fun _ _=>.ip hl.1 hl.2⟩
  |im es=>
   obtain⟨es',rfl,he⟩:=Vw hv;exact⟨_,hk,_,rfl,he.im,fun _ _=>he.im⟩
  |_=>exact aE hk
def Ba (e:dK C n h lim s):∀(xs:aA PV) (ys:aA AV) (K:aA PV->aB R) (r:R),Bx h xs K=some r->LR (RV C) xs ys->
  ∃xs' b,K xs'=some r/\mapO (Bi (Sim.look s.h) 6) ys=some b/\LR (RC false) xs' b/\((∀y∈ys,∃D,Sim.closed D y=true)->LR (RC false) xs' ys)
 |[],ys,K,r,hk,hl=>by
  rw[hl.inv_nil]
  exact⟨[],[],hk,rfl,.nil,fun _=>.nil⟩
 |a::as,ys,K,r,hk,hl=>by
  obtain⟨y,b,rfl,h1,h2⟩:=hl.inv_cons
  unfold Bx at hk
  obtain⟨a',i,b',j,k,l⟩:=Wk e 5 a y _ r hk h1
  obtain⟨c,d,q1,q2,q3,q4⟩:=Ba e as b _ r i h2
  refine⟨a'::c,b'::d,q1,by simp only[mapO,j,q2],.cons k q3,fun hc=>?_⟩
  obtain⟨D,f⟩:=hc y (by simp)
  exact .cons (l D f) (q4 fun z g=>hc z (by simp[g]))
def rQ (T:kG) (f:FuncId) (xs:aA PV) (v:PV):Prop:=
 ∃ifn,T f=some ifn/\ifn.pure=true/\(zK 4 v=true->ifn.frz=true)/\∀ys,LR (RC false) xs ys->∃D,∀d,D<=d->∃y,Sim.runP T (exec T d) f ifn ys=some y/\RC false v y
def eW1:∀{d:Nat} {x:PV} {y:AV},zK d x=true->RC false x y->Sim.gnd d y=true
 |0,_,_,h,_=>by simp[zK]at h
 |d+1,x,y,hc,hr=>by
  have all:∀{xs:aA PV} {ys:aA AV},xs.all (zK d)=true->LR (RC false) xs ys->ys.all (Sim.gnd d)=true:=by
   intro xs ys c hl;rw[aD3];intro y hy;obtain⟨x,a,b⟩:=Lb hl hy;exact eW1 (aD3.1 c x a) b
  cases hr with
  |v x=>rfl
  |agg hl hcc=>simp only[zK]at hc;simp only[Sim.gnd];exact all hc ⟨hl,hcc⟩
  |tup hl hcc=>simp only[zK]at hc;simp only[Sim.gnd];exact all hc ⟨hl,hcc⟩
  |_=>simp[zK]at hc
def Pi {T:kG} {O:yT} (u:∀f xs v,O f xs=some v->rQ T f xs v) (w:dK C n h lim s) {f:FuncId} {xs:aA PV} {ys:aA AV} {K:PV->aB R} {r:R} (hk:Av O f xs h K=some r) (q:LR (RV C) xs ys):
  ∃v y,K v=some r/\RC false v y/\(∃ifn,T f=some ifn/\ifn.pure=true/\(ifn.frz||ys.all (Sim.closed 4))=true)/\∃D,∀d,D<=d->∀m,Sim.callF T (exec T d) lim f ys {h:=s.h,n:=m}=some (y,{h:=s.h,n:=m}):=by
 unfold Av at hk;by_cases hc:xs.all (dY 4)=true;rw[hc,aL3,cD,zY2]at hk;obtain⟨v,hv,hk⟩:=hk;rw[Oy]at hk;obtain⟨ifn,h1,h2,l,o⟩:=u f xs v hv;have i:LR (RC false) xs ys:=⟨q.1,fun j x y a b=>zR (q.2 j x y a b) (aD3.1 hc x (aJ3 a))⟩
 have c:ys.all (Sim.closed 4)=true:=by
  rw[aD3];intro y hy;obtain⟨x,z,A⟩:=Lb i hy;exact Jb (aD3.1 hc x z) A
 obtain⟨D,g⟩:=o ys i;obtain⟨y,k,e⟩:=g D (aC3 _);refine⟨v,y,hk,e,⟨ifn,h1,h2,by rw[c];simp⟩,D,fun d hd m=>?_⟩;simp only[Sim.callF,h1,h2,aZ3,c,Sim.mono_runP (Sim.mono_le T hd) k,aU3];simp only[dM3]at hc;rw[hc,aV3]at hk;obtain⟨xs',t,q1,q2,q3,q4⟩:=Ba w xs ys _ r hk q;rw[cD,zY2]at q1;obtain⟨v,hv,q1⟩:=q1;rw[Oy]at q1;cases hg:zK 4 v with
 |false=>rw[hg]at q1;exact aE q1
 |true=>
  rw[hg,aL3]at q1;obtain⟨ifn,h1,h2,l,o⟩:=u f xs' v hv;by_cases c:ys.all (Sim.closed 4)=true;obtain⟨D,g⟩:=o ys (q4 fun y hy=>⟨4,aD3.1 c y hy⟩);obtain⟨y,k,e⟩:=g D (aC3 _);refine⟨v,y,q1,e,⟨ifn,h1,h2,by rw[l hg];rfl⟩,D,fun d hd m=>?_⟩;simp only[Sim.callF,h1,h2,aZ3,c,Sim.mono_runP (Sim.mono_le T hd) k,aU3];obtain⟨D,g⟩:=o t q3;obtain⟨y,k,e⟩:=g D (aC3 _);have p:=eW1 hg e;refine⟨v,y,q1,e,⟨ifn,h1,h2,by rw[l hg];rfl⟩,D,fun d hd m=>?_⟩;simp only[Sim.callF,h1,h2,l hg,aZ3,q2,Sim.mono_runP (Sim.mono_le T hd) k,p];rw[aG3 c]
end
end Go.P
namespace Go.P
open Go.Sim (AV AO Hp gN upd St IC IX Ex gC CK Wf Out doOp kG exec)
section
variable {R:Type} {C:Cx} {n:Nat} {h:aY} {lim:Nat} {s:Hp}
def mA (k:Nat) (C C':Cx):Prop:=(∀j,j≠k->C' j=C j)/\∀id o,C.z id=some o->C'.z id=some o
def Pj {C':Cx} {k:Nat} (m:mA k C C'):∀(d:Nat) (x:PV) (y:AV) (K:PV->aB R) (r:R),fH k d x K=some r->RV C x y->∃q,K q=some r/\RV C' q y
 |0,x,y,K,r,hk,_=>by unfold fH at hk;exact⟨_,hk,.undef⟩
 |d+1,x,y,K,r,hk,hv=>by
  have c:∀(xs:aA PV) (ys:aA AV) (K:aA PV->aB R) (r:R),fH.kills k d xs K=some r->LR (RV C) xs ys->∃xs',K xs'=some r/\LR (RV C') xs' ys:=by
   intro xs
   induction xs with
   |nil=>
    intro ys K r hk hl;rw[hl.inv_nil];unfold fH.kills at hk;exact⟨[],hk,.nil⟩
   |cons a as ih=>
    intro ys K r hk hl;obtain⟨y,p,rfl,h1,h2⟩:=hl.inv_cons;unfold fH.kills at hk;obtain⟨a',t,u⟩:=Pj m d a y _ r hk h1;obtain⟨n,q1,q2⟩:=ih p _ r t h2;exact⟨a'::n,q1,.cons u q2⟩
  have other:∀{pl:aB Pl} {j:Nat},C j=pl->j≠k->C' j=pl:=fun h s=>(m.1 _ s).trans h;unfold fH at hk;cases x with
  |zs d e rows=>exact⟨_,hk,.zs (RZ.mono m.2 (Iu hv))⟩
  |zm es=>
   rcases tI1 hv with⟨id,es',rfl,h1,h2⟩|⟨rfl,rfl⟩
   exact⟨_,hk,.zm (m.2 _ _ h1) h2⟩;exact⟨_,hk,.zm0⟩
  |own j=>
   simp only[bR]at hk;by_cases e:j=k;rw[bE3 e]at hk;exact⟨_,hk,.undef⟩;rw[bC3 e]at hk;refine⟨_,hk,?_⟩;rcases iQ hv with⟨id,ver,l,len,hc,rfl⟩|⟨hc,hy⟩
   exact .own (other hc e);exact .ownn (other hc e) hy
  |el j i o=>
   simp only[bR]at hk;by_cases e:j=k;rw[bE3 e]at hk;exact⟨_,hk,.undef⟩;rw[bC3 e]at hk;obtain⟨id,ver,l,len,hc,rfl⟩:=tJ hv;exact⟨_,hk,.el (other hc e)⟩
  |fn f a b=>
   obtain⟨a',b',rfl,h1,h2⟩:=xR hv;obtain⟨g,p1,p2⟩:=c _ _ _ r hk h1;obtain⟨w,q1,q2⟩:=c _ _ _ r p1 h2;exact⟨_,q1,.fn p2.1 q2.1 p2.2 q2.2⟩
  |agg cs=>
   obtain⟨cs',rfl,h1⟩:=pY hv;obtain⟨g,p1,p2⟩:=c _ _ _ r hk h1;exact⟨_,p1,.agg p2.1 p2.2⟩
  |tup cs=>
   obtain⟨cs',rfl,h1⟩:=Ev hv;obtain⟨g,p1,p2⟩:=c _ _ _ r hk h1;exact⟨_,p1,.tup p2.1 p2.2⟩
  |ref j o=>
   simp only[bR]at hk;by_cases e:j=k;rw[bE3 e]at hk;exact⟨_,hk,.undef⟩;rw[bC3 e]at hk;obtain⟨id,ver,l,len,hc,rfl⟩:=nE hv;exact⟨_,hk,.ref (other hc e)⟩
  |map j=>
   simp only[bR]at hk;by_cases e:j=k;rw[bE3 e]at hk;exact⟨_,hk,.undef⟩;rw[bC3 e]at hk;obtain⟨id,ver,l,len,hc,rfl⟩:=Ew hv;exact⟨_,hk,.map (other hc e)⟩
  |yld j=>
   simp only[bR]at hk;by_cases e:j=k;rw[bE3 e]at hk;exact⟨_,hk,.undef⟩;rw[bC3 e]at hk;obtain⟨id,ver,l,len,hc,rfl⟩:=Kx hv;exact⟨_,hk,.yld (other hc e)⟩
  |v x=>rw[iE hv];exact⟨_,hk,.cl (.v x)⟩
  |is e rows=>exact⟨_,hk,.cl (by cases hv with|cl h=>exact h)⟩
  |ip cs=>exact⟨_,hk,.cl (by cases hv with|cl h=>exact h)⟩
  |im es=>exact⟨_,hk,.cl (by cases hv with|cl h=>exact h)⟩
  |undef=>exact⟨_,hk,.undef⟩
def Fi {k:Nat}:∀(d:Nat) (x:PV) (K:PV->aB R) (r:R),fH k d x K=some r->∃g,K g=some r/\∀{C C':Cx} {y:AV},mA k C C'->RV C x y->RV C' g y
  |d,x,K,r,hk=>by
    have n:∃g,(∀{R:Type} (K:PV->aB R),fH k d x K=K g):=by
      have q:∀(d:Nat) (x:PV),∃g,∀{R:Type} (K:PV->aB R),fH k d x K=K g:=by
        intro d
        induction d with
        |zero=>intro x;exact⟨.undef,fun K=>by unfold fH;rfl⟩
        |succ d ih=>
          have c:∀(xs:aA PV),∃xs',∀{R:Type} (K:aA PV->aB R),fH.kills k d xs K=K xs':=by
            intro xs
            induction xs with
            |nil=>exact⟨[],fun K=>by unfold fH.kills;rfl⟩
            |cons a as ihl=>
              obtain⟨a',h⟩:=ih a;obtain⟨m,p⟩:=ihl;exact⟨a'::m,fun K=>by unfold fH.kills;rw[h,p]⟩
          intro x;cases x with
          | own j => by_cases e:j=k
                     exact⟨.undef,fun K=>by unfold fH;simp[bR,e]⟩;exact⟨.own j,fun K=>by unfold fH;simp[bR,e]⟩
          | el j i o => by_cases e:j=k
                        exact⟨.undef,fun K=>by unfold fH;simp[bR,e]⟩;exact⟨.el j i o,fun K=>by unfold fH;simp[bR,e]⟩
          | ref j o => by_cases e:j=k
                       exact⟨.undef,fun K=>by unfold fH;simp[bR,e]⟩;exact⟨.ref j o,fun K=>by unfold fH;simp[bR,e]⟩
          |zs d e rows=>exact⟨.zs d e rows,fun K=>by unfold fH;rfl⟩
          |zm es=>exact⟨.zm es,fun K=>by unfold fH;rfl⟩
          | map j => by_cases e:j=k
                     exact⟨.undef,fun K=>by unfold fH;simp[bR,e]⟩;exact⟨.map j,fun K=>by unfold fH;simp[bR,e]⟩
          | yld j => by_cases e:j=k
                     exact⟨.undef,fun K=>by unfold fH;simp[bR,e]⟩;exact⟨.yld j,fun K=>by unfold fH;simp[bR,e]⟩
          |fn f a b=>
            obtain⟨a',h⟩:=c a;obtain⟨b',hb⟩:=c b;exact⟨.fn f a' b',fun K=>by unfold fH;simp only[h,hb]⟩
          |agg cs=>
            obtain⟨a',h⟩:=c cs;exact⟨.agg a',fun K=>by unfold fH;simp only[h]⟩
          |tup cs=>
            obtain⟨a',h⟩:=c cs;exact⟨.tup a',fun K=>by unfold fH;simp only[h]⟩
          |v x=>exact⟨.v x,fun K=>by unfold fH;rfl⟩
          |is e rows=>exact⟨.is e rows,fun K=>by unfold fH;rfl⟩
          |ip cs=>exact⟨.ip cs,fun K=>by unfold fH;rfl⟩
          |im es=>exact⟨.im es,fun K=>by unfold fH;rfl⟩
          |undef=>exact⟨.undef,fun K=>by unfold fH;rfl⟩
      exact q d x
    obtain⟨g,l⟩:=n;refine⟨g,by rw[<-hk];exact(l K).symm,fun{C C' y} s hv=>?_⟩;obtain⟨x2,h1,h2⟩:=Pj (R:=PV) s d x y some g (l some) hv;cases h1;exact h2
def eX1 (k:Nat) (e e':fG):Prop:=∀i v',fC e' i=some v'->∃v,fC e i=some v/\∀{C C':Cx} {y:AV},mA k C C'->RV C v y->RV C' v' y
def kJ {k:Nat}:∀(e:fG) (K:fG->aB R) (r:R),oR k e K=some r->∃e',K e'=some r/\eX1 k e e'
 |[],K,r,hk=>⟨[],hk,fun i v h=>by simp[fC]at h⟩
 |(j,v)::t,K,r,hk=>by
  unfold oR at hk
  obtain⟨v',a,c⟩:=Fi 3 v _ r hk
  obtain⟨b,q1,q2⟩:=kJ t _ r a
  refine⟨(j,v')::b,q1,fun i w hw=>?_⟩
  simp only[fC]at hw ⊢
  split at hw
  grind
  rename_i e;rw[aG3 e];exact q2 i w hw
def xW (k:Nat) (h h':aY):Prop:=(∀j,aJ h' j=none↔aJ h j=none)/\∀j o',aJ h' j=some o'->∃o,aJ h j=some o/\gH o'=gH o/\
 ∀{C C':Cx} {L:Nat->aB AO} {lim nS:Nat} {pl:Pl},mA k C C'->C'.w=C.w->fX C L lim nS o pl->fX C' L lim nS o' pl
def Fj {k d:Nat}:∀(xs:aA PV) (K:aA PV->aB R) (r:R),fH.kills k d xs K=some r->∃xs',K xs'=some r/\∀{C C':Cx} {ys:aA AV},mA k C C'->LR (RV C) xs ys->LR (RV C') xs' ys
 |[],K,r,hk=>by
  unfold fH.kills at hk
  exact⟨[],hk,fun _ hl=>by rw[hl.inv_nil];exact .nil⟩
 |a::as,K,r,hk=>by
  unfold fH.kills at hk
  obtain⟨a',e,f⟩:=Fi d a _ r hk
  obtain⟨b,q1,q2⟩:=Fj as _ r e
  refine⟨a'::b,q1,fun c hl=>?_⟩
  obtain⟨y,g,rfl,h1,h2⟩:=hl.inv_cons
  exact .cons (f c h1) (q2 c h2)
def wN1 {C C':Cx} {fs b:aA PV} {els:aA (aA AV)} (h:∀{ys:aA AV},LR (RV C) fs ys->LR (RV C') b ys) (hl:els.length=fs.length) (hr:∀(i:Nat) (f:PV) (row:aA AV),fs[i]? =some f->els[i]? =some row->LR (RV C) [f] row):
  fs.length=b.length/\els.length=b.length/\∀(i:Nat) (f:PV) (row:aA AV),b[i]? =some f->els[i]? =some row->LR (RV C') [f] row:=by
 have hy:=h (ys:=els.map fun r=>r.headD default) ⟨by simp[hl],fun j x y m hy=>by
  simp only[bF3,aB3]at hy;obtain⟨row,a,rfl⟩:=hy;obtain⟨y,g,rfl,k,l⟩:=(hr j x row m a).inv_cons;exact k⟩
 have hlen:b.length=els.length:=by simpa using hy.1
 refine⟨by omega,by omega,fun i f row hf a=>?_⟩
 have e:∃c,fs[i]? =some c:=by
  have:=(zZ2.1 a).1;exact⟨fs[i]'(by omega),by simp⟩
 obtain⟨c,d⟩:=e;obtain⟨y,g,rfl,k,l⟩:=(hr i c row d a).inv_cons;rw[l.inv_nil];exact .cons (hy.2 i f y hf (by simp[bF3,a])) .nil
def wE {k:Nat}:∀(hs:aA (Nat×Nat×PV)) (K:aA (Nat×Nat×PV)->aB R) (r:R),Eo k hs K=some r->∃c,K c=some r/\(hs=[]->c=[])/\∀i j,(Bk hs i j->Bk c i j)/\∀d,(j,i,d)∈c->∃x,(j,i,x)∈hs/\∀{C C':Cx} {y:AV},mA k C C'->RV C x y->RV C' d y
 |[],K,r,hk=>⟨[],hk,fun _=>rfl,fun i j=>⟨fun h=>h,fun d h=>by cases h⟩⟩
 |(a,b,x)::t,K,r,hk=>by
  unfold Eo at hk
  obtain⟨d,f,g⟩:=Fi 3 x _ r hk
  obtain⟨l,q1,q2,q3⟩:=wE t _ r f
  refine⟨_,q1,fun h=>(by cases h),fun i j=>⟨fun⟨y,hy⟩=>?_,fun y hy=>?_⟩⟩
  rcases aM3.1 hy with hy|hy
  cases hy;exact⟨d,List.mem_cons_self ..⟩
  obtain⟨z,e⟩:=(q3 i j).1 ⟨y,hy⟩
  exact⟨z,bJ3 _ e⟩
  grind
def lM {k:Nat}:∀(h:aY) (K:aY->aB R) (r:R),kX k h K=some r->∃h',K h'=some r/\xW k h h'
 |[],K,r,hk=>⟨[],hk,fun j=>Iff.rfl,fun j o h=>by simp[aJ]at h⟩
 |(j,o)::t,K,r,hk=>by
  have fin:∀(o':dN),kX k t (fun r=>K ((j,o')::r))=some r->gH o'=gH o->(∀{C C':Cx} {L:Nat->aB AO} {lim nS:Nat} {pl:Pl},mA k C C'->C'.w=C.w->fX C L lim nS o pl->fX C' L lim nS o' pl)->∃h',K h'=some r/\xW k ((j,o)::t) h':=by
   intro o' hk hb f;obtain⟨G,q1,q2,q3⟩:=lM t _ r hk;refine⟨(j,o')::G,q1,fun i=>?_,fun i w hw=>?_⟩;simp only[aJ];split;simp;exact q2 i;simp only[aJ]at hw ⊢;split at hw
   grind
   grind
  unfold kX at hk;cases o with
  |box cs=>
   obtain⟨cs',z,p⟩:=Fj cs _ r hk;refine fin _ z rfl (fun{C C' L lim nS pl} l hw f=>?_);cases pl with
   |nil=>exact f
   |atp id ver e len=>
    obtain⟨h1,h2,ty,esz,row,m,n⟩:=f;exact⟨h1,h2,ty,esz,row,m,p l n⟩
  |lst ty e g rows=>exact fin _ hk rfl (fun{C C' L lim nS pl} l hw f=>by cases pl<;>exact f)
  |lz ty e dp rows=>
   refine fin _ hk rfl (fun{C C' L lim nS pl} l hw f=>?_);cases pl with
   |nil=>exact f
   |atp id ver e3 len=>
    obtain⟨h1,h2,m,n,s,els,u,A⟩:=f;exact⟨h1,h2,m,n,s,els,u,A.mono l.2⟩
  |mp es=>exact fin _ hk rfl (fun{C C' L lim nS pl} l hw f=>by cases pl<;>exact f)
  |fl fs=>
   obtain⟨D,z,p⟩:=Fj fs _ r hk;refine fin _ z rfl (fun{C C' L lim nS pl} l hw f=>?_);cases pl with
   |nil=>exact f
   |atp id ver e len=>
    obtain⟨h1,h2,m,n,ty,els,s,u,A⟩:=f;obtain⟨a,b,c⟩:=wN1 (p l) u A;exact⟨h1,h2,m,by rw[n,a],ty,els,s,b,c⟩
  |loop N e ps a b busy fi=>
   obtain⟨e',z,p⟩:=kJ e _ r hk;refine fin _ z rfl (fun{C C' L lim nS pl} l hw f=>?_);cases pl with
   |nil=>exact f
   |atp id ver e3 len=>
    obtain⟨h1,h2,st,pend,tmps,m,n,s,u⟩:=f;refine⟨h1,h2,st,pend,tmps,m,n,fun i v hv=>?_,u⟩;obtain⟨w,w1,w2⟩:=p i v hv;obtain⟨y,J,M⟩:=s i w w1;exact⟨y,J,w2 l M⟩
  |tr t rows hs=>
   obtain⟨E,z,p⟩:=wE hs _ r hk;refine fin _ z rfl (fun{C C' L lim nS pl} l hw f=>?_);obtain⟨ty,e,ks⟩:=t;cases pl with
   |nil=>exact⟨f.1,by have:=f.2;subst this;simpa using p.1⟩
   |atp id ver e3 len=>
    obtain⟨h1,h2,m,n,s,els,d,u,A,B⟩:=f;refine⟨h1,h2,m,n,s,els,d,u,A,fun i r r' a b=>⟨(B i r r' a b).1,fun j x y c1 c2=>?_⟩⟩;have:=(B i r r' a b).2 j x y c1 c2;unfold TC at this ⊢;cases hk:gK ks j with
    |none=>rw[hk]at this;exact this
    |some t=>
     rw[hk]at this;simp only at this ⊢;rw[hw];have q:=p.2 i j;rcases this with⟨a1,a2⟩|⟨a1,a2⟩
     grind
     exact .inr ⟨fun⟨H,F⟩=>by
      obtain⟨x,p1,_⟩:=q.2 H F;exact a1 ⟨x,p1⟩,a2⟩
def eY1 (c:dK C n h lim s) {e:Nat} {x:PV} {y:AV} {K:aA (aA PV)->aB R} {r:R} (hk:dO1 h e x K=some r) (hv:RV C x y):∃rows rows',K rows=some r/\Sim.rowsOf (Sim.look s.h) e y=some rows'/\RR rows rows':=by
 unfold dO1 at hk;split at hk;rename_i e' rows;rw[bR]at hk;by_cases a:e'=e;subst a;rw[bE3 rfl,aL3]at hk;rcases Vv hv with⟨rows',rfl,hr⟩|⟨rfl,rfl|rfl⟩
 exact⟨rows,rows',hk,by simp[Sim.rowsOf],hr⟩;exact⟨[],[],hk,rfl,.nil⟩;exact⟨[],[],hk,rfl,.nil⟩
 grind
 rename_i k;simp only[gV,zY2]at hk;obtain⟨ob,hg,hk⟩:=hk;cases ob with
 |lst ty e' g rows=>
  simp only[bR]at hk;by_cases a:e'=e;subst a;rw[bE3 rfl,aL3]at hk;rcases kD hv with⟨id,ver,i,len,b,rfl⟩|⟨b,hy⟩
  obtain⟨_,rfl,hlen,els,d,hr,f,_⟩:=lX c hg b;subst hlen;refine⟨rows,els.take rows.length,hk,?_,hr⟩;simp only[Sim.rowsOf,d];rw[aE3 ⟨by trivial,by trivial,by omega⟩,bZ3];have:=nR c hg b;subst this;rcases hy with rfl|rfl;exact⟨[],[],hk,rfl,.nil⟩;exact⟨[],[],hk,rfl,.nil⟩
  grind
 |_=>exact aE hk
 rw[iE hv];exact⟨[],[],hk,rfl,.nil⟩;exact aE hk
def mv (C:Cx) (k:Nat) (pl:Pl):Cx:=⟨fun j=>if j=k then some pl else C j,C.z,C.w⟩
def eZ (C:Cx) (k:Nat) (pl:Pl):mA k C (mv C k pl):=⟨fun j a=>aG3 a,fun _ _ h=>h⟩
def pM (C:Cx) (k:Nat) (pl:Pl):mv C k pl k=some pl:=aE3 rfl
def mA.self {k:Nat} {C:Cx}:mA k C C:=⟨fun _ _=>rfl,fun _ _ h=>h⟩
def Te {k:Nat} {po po':dN} {h1:aY} {C':Cx} (hg:aJ h k=some po) (hkl:xW k h h1) (hb:gH po'=false) (c:mA k C C'):
  ∀j o,aJ h j=some o->∃o',aJ (dC h1 k po') j=some o'/\(gH o'=true->gH o=true/\C' j=C j):=by
 intro j o a
 have d:(aJ h1 k).isSome=true:=by
  cases hc:aJ h1 k with
  |none=>rw[(hkl.1 k).1 hc]at hg;cases hg
  |some o=>rfl
 rw[eE];by_cases b:j=k
 grind
 rw[aG3 (fun h=>b h.1)];cases hc:aJ h1 j with
 |none=>rw[(hkl.1 j).1 hc]at a;cases a
 |some o'=>
  obtain⟨f,q1,e,_⟩:=hkl.2 j o' hc;rw[a]at q1;cases q1;exact⟨o',rfl,fun h=>⟨by rw[<-e];exact h,c.1 j b⟩⟩
def Pk (b:dK C n h lim s) {k id ver e len} {po po2:dN} {h1:aY} {s':Hp} (hg:aJ h k=some po) (hkl:xW k h h1)
  (hs:s.n<=s'.n) (hw:Wf s'.h s'.n) (D:Sk s.h s'.h s.n) (a:∀i,i<s.n->i≠id->Sim.look s'.h i=Sim.look s.h i) (hid:s.n<=id\/∃v e l,C k=some (.atp id v e l))
  (J:fX (mv C k (.atp id ver e len)) (Sim.look s'.h) lim s'.n po2 (.atp id ver e len)) (A:gH po2=false):
  dK (mv C k (.atp id ver e len)) n (dC h1 k po2) lim s'/\Fr C h s (mv C k (.atp id ver e len)) (dC h1 k po2) s':=by
 have B:(aJ h1 k).isSome=true:=by
  cases hc:aJ h1 k with
  |none=>rw[(hkl.1 k).1 hc]at hg;cases hg
  |some o=>rfl
 have m:∀j,aJ (dC h1 k po2) j=if j=k then some po2 else aJ h1 j:=fun j=>by
  rw[eE];simp[B]
 have c:∀j,aJ (dC h1 k po2) j≠none->aJ h j≠none:=fun j f=>by
  rw[m]at f;split at f
  grind
  exact fun hc=>f ((hkl.1 j).2 hc)
 have t:C.w id=none:=by
  rcases hid with hid|⟨v',e',l',hid⟩
  cases d:C.w id with
  |none=>rfl
  |some sl=>have:=(b.hr.wb id sl d).1;omega
  exact b.hr.wn k id v' e' l' (by rw[hg];simp) hid
 have p:∀j v e l,j≠k->aJ h j≠none->C j≠some (.atp id v e l):=by
  intro j v e2 l f F hc;rcases hid with hid|⟨v',e',l',hid⟩
  have:=(b.hr.lt F hc).2;omega;exact f (b.hr.inj j k id _ _ _ _ _ _ F (by rw[hg];simp) hc hid)
 refine⟨⟨⟨fun j o f=>?_,fun j q i v1 g x v2 e2 L a1 a2 a3 a4=>?_,fun i o K=>?_,fun j i v1 g x a1 a2=>?_,fun i sl hw=>⟨bK3 (b.hr.wb i sl hw).1 hs,bK3 (b.hr.wb i sl hw).2 hs⟩,b.hr.wz⟩,fun j pl f=>?_,hw,bB3 b.lim hs⟩,⟨D,hs,fun i hi hn=>a i hi (fun g=>hn ?_),fun i hi hn=>?_,Te hg hkl A (eZ C k _),fun _ _ h=>h,fun _ _ h=>.inl h⟩⟩;rw[m]at f;split at f;rename_i g;subst g;cases f;exact⟨_,pM C j _,J⟩;rename_i y;obtain⟨M,q1,N,q2⟩:=hkl.2 j o f;obtain⟨pl,u,z⟩:=b.hr.ob j M q1;refine⟨pl,((eZ C k _).1 j y).trans u,?_⟩;have G:fX (mv C k (.atp id ver e len)) (Sim.look s.h) lim s.n o pl:=q2 (eZ C k _) rfl z;refine G.mono hs (.refl _) (fun i v1 g x hp=>?_) (fun H sl d=>⟨d,a H (b.hr.wb H sl d).1 fun e2=>by rw[e2]at d;rw[show(mv C k (.atp id ver e len)).w=C.w from rfl,t]at d;cases d⟩);subst hp;exact a i G.lt.2 (fun e2=>by subst e2;exact p j _ _ _ y (by rw[q1];simp) u);by_cases b1:j=k;by_cases b2:q=k;rw[b1,b2];exfalso;subst b1;rw[pM]at a3;cases a3;rw[(eZ C j _).1 q b2]at a4;exact p q _ _ _ b2 (c q a2) a4;by_cases b2:q=k;exfalso;subst b2;rw[pM]at a4;cases a4;rw[(eZ C q _).1 j b1]at a3;exact p j _ _ _ b1 (c j a1) a3;rw[(eZ C k _).1 j b1]at a3;rw[(eZ C k _).1 q b2]at a4;exact b.hr.inj j q i v1 g x v2 e2 L (c j a1) (c q a2) a3 a4;obtain⟨z1,z2,z3,z4⟩:=b.hr.zr i o K;have r:i≠id:=fun g=>by grind
 refine⟨(a i z2 r).trans z1,bK3 z2 hs,fun j v e' l h1 h2=>?_,z4⟩;by_cases b1:j=k;subst b1;rw[pM]at h2;cases h2;exact r rfl;exact z3 j v e' l (c j h1) (((eZ C k _).1 j b1).symm.trans h2);by_cases b1:j=k;subst b1;rw[pM]at a2;cases a2;exact t;exact b.hr.wn j i v1 g x (c j a1) (((eZ C k _).1 j b1).symm.trans a2);by_cases b1:j=k;subst b1;obtain⟨E,u,_⟩:=b.hr.ob j _ hg;exact b.dom j E u;exact b.dom j pl (((eZ C k _).1 j b1).symm.trans f);subst g;rcases hid with hid|⟨v',e',l',hid⟩
 omega;exact .inl ⟨k,v',e',l',by rw[hg];simp,hid⟩;rcases hn with⟨j,v1,g,x,u,z⟩|hn;by_cases b1:j=k;subst b1;rw[pM]at z;cases z;rcases hid with hid|⟨v',e',l',hid⟩
 omega;exact .inl ⟨j,v',e',l',by rw[hg];simp,hid⟩;exact .inl ⟨j,v1,g,x,c j u,((eZ C k _).1 j b1).symm.trans z⟩;exact .inr hn
end
end Go.P
