import Derived.Test.YtfdbgfhnlgbonaaGreatLaB
/- A text of the proof. -/
set_option linter.all false
namespace Go.P
open Go.Sim (gC CK Ex RV maxRoom)
variable {A R:Type}
inductive PV where
 |v (x:Value)
 |is (esz:Nat) (rows:List (List PV))
 |ip (cells:List PV)
 |im (es:List (PV×PV))
 |ref (k o:Nat)
 |own (k:Nat)
 |el (k i o:Nat)
 |map (k:Nat)
 |fn (f:FuncId) (first cap:List PV)
 |agg (cells:List PV)
 |tup (vs:List PV)
 |undef
 |yld (k:Nat)
 |zs (d e:Nat) (rows:List (List PV))
 |zm (es:List (PV×PV))
 |zp (cells:List PV)
 |zt (c e:Nat) (rows:List (List PV))
 deriving Inhabited
inductive TD where
 |nd (ty e:Nat) (kids:List (Nat×TD))
 deriving Inhabited
def xP:Nat->TD->Bool
 |0,.nd _ _ ks=>ks.isEmpty
 |f+1,.nd _ _ ks=>ks.all fun q=>xP f q.2
def Kp:Nat->TD->TD->Bool
 |0,_,_=>false
 |n+1,.nd a b ks,.nd c d ls=>Nat.beq a c&&(Nat.beq b d&&(Nat.beq ks.length ls.length&&(ks.zip ls).all fun p=>Nat.beq p.1.1 p.2.1&&Kp n p.1.2 p.2.2))
def vA:TD->Bool
 |.nd ty _ _=>Nat.ble 8589934592 ty
def Vl (ty:Nat):Nat:=bif Nat.ble 8589934592 ty then ty-8589934592 else ty
def TD.ks:TD->aA (Nat×TD)
 |.nd _ _ ks=>ks
inductive PX where
 |t (i:Nat)
 |c (x:PV)
 deriving Inhabited
inductive jJ where
 |nil
 |op (d:Nat) (k:gC) (xs:List PX) (kill:List Nat) (cJ:jJ)
 |sto (k:gC) (xs:List PX) (kill:List Nat) (cJ:jJ)
 |ifx (d c:Nat) (w:Bool) (body:jJ) (x:PX) (kill:List Nat) (cJ:jJ)
 |ifn (d c:Nat) (w:Bool) (body:jJ) (x:PX) (kill:List Nat) (cJ:jJ)
 |mkfl (d:Nat) (ty:TypeId) (zero:List Value) (xs:List PX) (kill:List Nat) (cJ:jJ)
 |lax (d:Nat) (es:List (Option Nat)) (cJ:jJ)
 |own (d:Nat) (ty:TypeId) (e:Nat) (g:Bool) (cJ:jJ)
 |ownc (d j:Nat) (ty:TypeId) (e:Nat) (g:Bool) (cJ:jJ)
 |laxc (d j e:Nat) (cJ:jJ)
 |fz (d:Nat) (j:Option Nat) (cJ:jJ)
 |laxm (d:Nat) (j:Option Nat) (cJ:jJ)
 |opn (d:Nat) (m:Option Nat) (x:PX) (kill js:List Nat) (cJ:jJ)
 |bst (d:Nat) (t:TD) (len:Nat) (zero:List Value) (parts:List Nat) (xs:List PX) (kill:List Nat) (cJ:jJ)
 |gc (keep:List Nat) (cJ:jJ)
 |clr (d es:Nat) (zero:List Value) (x y:PX) (kill:List Nat) (cJ:jJ)
 |tre (d:Nat) (j:Option Nat) (t:TD) (cJ:jJ)
 |up (m:Nat) (cJ:jJ)
 deriving Inhabited
inductive PC where
 |skip
 |reg (ops:jJ)
 |regD (dr:Nat) (ops:jJ) (before:List Nat)
 |dead (c:Go.Sim.IC)
 |regX (dr:Nat) (ops:jJ) (before:List Nat) (ex:List (Nat×Nat×Nat×Nat))
 |seq (a b:PC)
 |cond (c:PX) (a b:PC)
 |condJ (keep:List Nat) (c:PX) (a b:PC)
 |condL (c:PX) (a b:PC)
 |block (id:Nat) (c:PC)
 |loop (keep kx:List Nat) (c:PC)
 |loopU (m:Nat) (keep:List Nat) (c:PC)
 |rangeF (N:Nat) (keep:List Nat) (f:PX) (params:List Nat) (asn body:PC)
 |exit (id:Nat)
 |ret
 deriving Inhabited
abbrev eQ:=aA (Nat×PV)
inductive cS where
 |box (cells:List PV)
 |lst (ty:TypeId) (esz:Nat) (g:Bool) (rows:List (List PV))
 |mp (es:List (PV×PV))
 |fl (fs:List PV)
 |lz (ty:TypeId) (esz dp:Nat) (rows:List (List PV))
 |loop (N:Nat) (e:eQ) (params:List Nat) (asn body:PC) (busy:Bool) (fin:Option Ex)
 |tr (t:TD) (rows:List (List PV)) (hs:List (Nat×Nat×PV))
abbrev aJ:=aA (Nat×cS)
def dY (ty:Nat):Bool:=Nat.ble 4294967296 ty
def zD (ty:Nat):Nat:=bif dY ty then ty-4294967296 else ty
def cQ1:∃f:{R:Type}->Bool->aB R->aB R->aB R,∀{R:Type} b (x y:aB R),f b x y=if b then x else y:=⟨fun b x y=>if b then x else y,fun _ _ _=>rfl⟩
noncomputable def Ms (b:Bool) (x y:aB R):aB R:=Classical.choose cQ1 b x y
def rQ {R} (b:Bool) (x y:aB R):Ms b x y=if b then x else y:=cE3 cQ1 b x y
def Ol:∃f:{A R:Type}->aB A->(A->aB R)->aB R,∀{A R:Type} (x:aB A) (k:A->aB R),f x k=x.bind k:=⟨fun x k=>x.bind k,fun _ _=>rfl⟩
noncomputable def bP (x:aB A) (k:A->aB R):aB R:=Classical.choose Ol x k
def bJ {A R} (x:aB A) (k:A->aB R):bP x k=x.bind k:=cE3 Ol x k
noncomputable section
def Su (x:Value) (K:Value->aB R):aB R:=
 match x with
 |.int k n=>K (.int k n)
 |.bool b=>K (.bool b)
 |.string s=>K (.string s)
 |x=>K x
def fPV (x:PV) (K:PV->aB R):aB R:=
 match x with
 |.v x=>Su x fun x=>K (.v x)
 |.is e rows=>K (.is e rows)
 |.ip cs=>K (.ip cs)
 |.im es=>K (.im es)
 |.ref k o=>K (.ref k o)
 |.own k=>K (.own k)
 |.el k i o=>K (.el k i o)
 |.map k=>K (.map k)
 |.fn f a b=>K (.fn f a b)
 |.agg cs=>K (.agg cs)
 |.tup cs=>K (.tup cs)
 |.undef=>K .undef
 |.yld k=>K (.yld k)
 |.zs d e rows=>K (.zs d e rows)
 |.zm es=>K (.zm es)
 |.zp cs=>K (.zp cs)
 |.zt c e rows=>K (.zt c e rows)
def vW:aA PV->(aA PV->aB R)->aB R
 |[],K=>K []
 |x::xs,K=>fPV x fun x=>vW xs fun xs=>K (x::xs)
def fV (x:PV) (K:PV->aB R):aB R:=
 match x with
 |.v x=>Su x fun x=>K (.v x)
 |.agg cs=>vW cs fun cs=>K (.agg cs)
 |.tup cs=>fT cs fun cs=>K (.tup cs)
 |.ip cs=>vW cs fun cs=>K (.ip cs)
 |.is e rows=>K (.is e rows)
 |.im es=>K (.im es)
 |.ref k o=>K (.ref k o)
 |.own k=>K (.own k)
 |.el k i o=>K (.el k i o)
 |.map k=>K (.map k)
 |.fn f a b=>vW a fun a=>vW b fun b=>K (.fn f a b)
 |.undef=>K .undef
 |.yld k=>K (.yld k)
 |.zs d e rows=>K (.zs d e rows)
 |.zm es=>K (.zm es)
 |.zp cs=>K (.zp cs)
 |.zt c e rows=>K (.zt c e rows)
 where
 fT:aA PV->(aA PV->aB R)->aB R
 |[],K=>K []
 |x::xs,K=>(match x with
   |.agg cs=>vW cs fun cs=>fT xs fun xs=>K (.agg cs::xs)
   |x=>fPV x fun x=>fT xs fun xs=>K (x::xs))
def rR:eQ->Nat->(PV->aB R)->aB R
 |[],_,_=>none
 |(j,v)::r,i,K=>bif Nat.beq j i then K v else rR r i K
def vB:Nat->aA Nat->Bool
 |_,[]=>false
 |i,j::js=>bif Nat.beq i j then true else vB i js
def iY:eQ->aA Nat->(eQ->aB R)->aB R
 |[],_,K=>K []
 |(j,v)::r,is,K=>bif vB j is then iY r is K else iY r is fun r=>K ((j,v)::r)
def qI (e:eQ):aA PX->(aA PV->aB R)->aB R
 |[],K=>K []
 |.t i::xs,K=>rR e i fun v=>qI e xs fun vs=>K (v::vs)
 |.c x::xs,K=>qI e xs fun vs=>K (x::vs)
def qJ:Nat->aA PV->(aA PV->aB R)->aB R
 |0,_,K=>K []
 |_+1,[],_=>none
 |n+1,a::as,K=>qJ n as fun l=>K (a::l)
def iX:Nat->aA PV->(aA PV->aB R)->aB R
 |0,l,K=>K l
 |_+1,[],_=>none
 |n+1,_::as,K=>iX n as K
def qK:aA PV->Nat->aA PV->(aA PV->aB R)->aB R
 |l,0,[],K=>K l
 |[],_,_,_=>none
 |_::as,0,c::cs,K=>qK as 0 cs fun l=>K (c::l)
 |a::as,n+1,cs,K=>qK as n cs fun l=>K (a::l)
def hK:aJ->Nat->(cS->aB R)->aB R
 |[],_,_=>none
 |(j,v)::r,i,K=>bif Nat.beq j i then K v else hK r i K
def gA:aJ->Nat->cS->(aJ->aB R)->aB R
 |[],_,_,_=>none
 |(j,v)::r,i,o,K=>bif Nat.beq j i then K ((j,o)::r)else gA r i o fun r=>K ((j,v)::r)
def mL (x:PV) (K:aA PV->aB R):aB R:=
 match x with
 |.agg cs=>K cs
 |.tup _=>none
 |.undef=>none
 |x=>K [x]
def kEq (a b:IntKind):Bool:=
 match a,b with
 |.i8,.i8|.i16,.i16|.i32,.i32|.i64,.i64|.u8,.u8|.u16,.u16|.u32,.u32|.u64,.u64=>true
 |_,_=>false
def tZ1 (op:BinOp) (x y:PV) (K:PV->aB R):aB R:=
 match x,y with
 |.v x,.v y=>
  match x,y with
  |.int k a,.int k' b=>
   match op with
   |.shl=>bP (if b<0 then none else some (k.wrap (a*2^min b.toNat k.bits))) fun r=>K (.v (.int k r))
   |.shr=>bP (if b<0 then none else some (a.fdiv (2^min b.toNat k.bits))) fun r=>K (.v (.int k r))
   |_=>bif kEq k k' then match op with
    |.add=>K (.v (.int k (k.wrap (a+b))))
    |.sub=>K (.v (.int k (k.wrap (a-b))))
    |.mul=>K (.v (.int k (k.wrap (a*b))))
    |.quo=>bP (if b=0 then none else some (k.wrap (a.tdiv b))) fun r=>K (.v (.int k r))
    |.rem=>bP (if b=0 then none else some (a.tmod b)) fun r=>K (.v (.int k r))
    |.and=>K (.v (.int k (k.wrap (BitVec.ofInt k.bits a&&&BitVec.ofInt k.bits b).toNat)))
    |.or=>K (.v (.int k (k.wrap (BitVec.ofInt k.bits a|||BitVec.ofInt k.bits b).toNat)))
    |.xor=>K (.v (.int k (k.wrap (BitVec.ofInt k.bits a^^^BitVec.ofInt k.bits b).toNat)))
    |.andNot=>K (.v (.int k (k.wrap (BitVec.ofInt k.bits a&&& ~~~ BitVec.ofInt k.bits b).toNat)))
    |.eql=>K (.v (.bool (a==b)))
    |.neq=>K (.v (.bool (a !=b)))
    |.lss=>K (.v (.bool (decide (a<b))))
    |.leq=>K (.v (.bool (decide (a<=b))))
    |.gtr=>K (.v (.bool (decide (a>b))))
    |.geq=>K (.v (.bool (decide (a>=b))))
    |_=>none
   else none
  |.string a,.string b=>
   match op with
   |.add=>bP (if a.size+b.size<=2^62 then some (a++b)else none) fun r=>K (.v (.string r))
   |.eql=>K (.v (.bool (a.toList==b.toList)))
   |.neq=>K (.v (.bool !(a.toList==b.toList)))
   |.lss=>K (.v (.bool (Op.bytesLess a.toList b.toList)))
   |.leq=>K (.v (.bool (Op.bytesLess a.toList b.toList||a.toList==b.toList)))
   |.gtr=>K (.v (.bool !(Op.bytesLess a.toList b.toList||a.toList==b.toList)))
   |.geq=>K (.v (.bool !(Op.bytesLess a.toList b.toList)))
   |_=>none
  |_,_=>none
 |_,_=>none
def jV1:aA CK->aA PV->aA PV->(Bool->aB R)->aB R
 |[],[],[],K=>K true
 |k::ks,a::as,b::bs,K=>jV1 ks as bs fun r=>match k,a,b with
  |.i,.v (.int j x),.v (.int j' y)=>bif kEq j j' then K ((x==y)&&r)else none
  |.b,.v (.bool x),.v (.bool y)=>K ((x==y)&&r)
  |.s,.v (.string x),.v (.string y)=>K ((x==y)&&r)
  |_,_,_=>none
 |_,_,_,_=>none
def mM (rows:aA (aA PV)) (i:Int):aB (aA PV):=if 0<=i then rows[i.toNat]? else none
def sI (n:Nat) (i:Int):aB Nat:=if 0<=i/\i<n then some i.toNat else none
def qL (rows:aA (aA PV)) (l h:Int):aB (aA (aA PV)):=
 if 0<=l/\l<=h/\h<=rows.length then some ((rows.drop l.toNat).take (h.toNat-l.toNat))else none
def tJ (s:ByteArray) (i:Int):aB Int:=if 0<=i then(s.data.toList[i.toNat]?).map fun b=>(b.toNat:Int)else none
def oS (rows:aA (aA PV)) (i o:Nat) (cs:aA PV):aB (aA (aA PV)):=
 match rows[i]? with
 |some row=>if o+cs.length<=row.length then some (rows.set i (Sim.setL row o cs))else none
 |none=>none
def lB (rows:aA (aA PV)) (i o:Nat):aB PV:=(rows[i]?).bind fun row=>row[o]?
def lZ (rows:aA (aA PV)) (i o n:Nat):aB (aA PV):=(rows[i]?).bind fun row=>if o+n<=row.length then some ((row.drop o).take n)else none
def xQ (cs:aA PV) (i:Int) (len esz:Nat):aB PV:=if 0<=i/\i<len then cs[i.toNat*esz]? else none
def tK (cs:aA PV) (i:Int) (len esz:Nat):aB (aA PV):=if 0<=i/\i<len/\(i.toNat+1)*esz<=cs.length then some ((cs.drop (i.toNat*esz)).take esz)else none
def byteRows (s:ByteArray):aA (aA PV):=s.data.toList.map fun b=>[.v (.int .u8 b.toNat)]
def appRows (g:Bool) (rows new:aA (aA PV)):aB (aA (aA PV)):=
 if rows.length+new.length<=maxRoom/\(g=true->new.length<=1)then some (rows++new)else none
def uE (rows:aA (aA PV)) (h:Int):aB (aA (aA PV)):=if 0<=h/\h<=rows.length then some (rows.take h.toNat)else none
def oT (l c:Int) (zero:aA PV):aB (aA (aA PV)):=if 0<=l/\l<=c/\c<=maxRoom then some (List.replicate l.toNat zero)else none
def xR:CK->PV->PV->aB Bool
 |.i,.v (.int k a),.v (.int k' b)=>if k=k' then some (a==b)else none
 |.b,.v (.bool a),.v (.bool b)=>some (a==b)
 |.s,.v (.string a),.v (.string b)=>some (a==b)
 |_,_,_=>none
def oU:aA CK->aA PV->aA PV->aB Bool
 |[],[],[]=>some true
 |k::ks,a::as,b::bs=>match xR k a b with
  |some true=>oU ks as bs
  |some false=>some false
  |none=>none
 |_,_,_=>none
def zT (agg:Bool) (ks:aA CK) (a b:PV):aB Bool:=
 if agg then match a,b with
  |.agg as,.agg bs=>if as.length=ks.length/\bs.length=ks.length then oU ks as bs else none
  |_,_=>none
 else oU ks [a] [b]
def xS (agg:Bool) (ks:aA CK) (k:PV):aA (PV×PV)->Nat->aB (aB (Nat×PV))
 |[],_=>some none
 |(k',x)::r,i=>match zT agg ks k k' with
  |some true=>some (some (i,x))
  |some false=>xS agg ks k r (i+1)
  |none=>none
def zU (agg:Bool) (ks:aA CK):PV->Bool
 |.agg as=>agg&&as.length==ks.length
 |.v _=> !agg
 |_=>false
def vX (agg:Bool) (ks:aA CK) (zero k:PV) (es:aA (PV×PV)):aB PV:=
 if zU agg ks k then(xS agg ks k es 0).map fun r=>match r with|some (_,x)=>x|none=>zero else none
def xT (agg:Bool) (ks:aA CK) (zero k:PV) (es:aA (PV×PV)):aB (PV×Bool):=
 if zU agg ks k then(xS agg ks k es 0).map fun r=>match r with|some (_,x)=>(x,true)|none=>(zero,false)else none
def Ey (agg:Bool) (ks:aA CK) (k x:PV) (es:aA (PV×PV)):aB (aA (PV×PV)):=
 if zU agg ks k then(xS agg ks k es 0).map fun r=>match r with|some (i,_)=>es.set i (k,x)|none=>es++[(k,x)]else none
def eY:Nat->PV->Bool
 |0,_=>false
 |d+1,x=>match x with
  |.v _|.is _ _|.ip _|.im _=>true
  |.fn _ a b=>a.all (eY d)&&b.all (eY d)
  |.agg cs=>cs.all (eY d)
  |.tup cs=>cs.all (eY d)
  |_=>false
def gZ:PV->Bool
 |.v _|.is _ _|.ip _=>true
 |_=>false
def Sv:PV->Bool
 |.agg cs=>cs.all gZ
 |x=>gZ x
def zV:Nat->PV->Bool
 |0,_=>false
 |d+1,x=>match x with
  |.v _=>true
  |.agg cs=>cs.all (zV d)
  |.tup cs=>cs.all (zV d)
  |_=>false
def vC (f:PV->(PV->aB R)->aB R):aA PV->(aA PV->aB R)->aB R
 |[],K=>K []
 |x::xs,K=>f x fun x=>vC f xs fun xs=>K (x::xs)
def Kq (h:aJ):Nat->PV->(PV->aB R)->aB R
 |0,_,_=>none
 |d+1,x,K=>match x with
  |.own k=>hK h k fun ob=>match ob with
   |.lst _ e _ rows=>K (.is e rows)
   |.lz _ e dp rows=>bif Nat.ble dp 4 then K (.is e rows)else none
   |.tr t rows hs=>match hs with
    |[]=>match t with|.nd ty e ks=>bif xP 4 (.nd ty e ks)then K (.is e rows)else none
    |_=>none
   |_=>none
  |.zs dp e rows=>bif Nat.ble dp 5 then K (.is e rows)else none
  |.zt _ e rows=>K (.is e rows)
  |.map k=>hK h k fun ob=>match ob with
   |.mp es=>K (.im es)
   |_=>none
  |.ref k o=>hK h k fun ob=>match ob with
   |.box cs=>iX o cs fun cs=>vC (Kq h d) cs fun cs=>K (.ip cs)
   |_=>none
  |.fn f a b=>vC (Kq h d) a fun a=>vC (Kq h d) b fun b=>K (.fn f a b)
  |.agg cs=>vC (Kq h d) cs fun cs=>K (.agg cs)
  |.v x=>K (.v x)
  |.is e rows=>K (.is e rows)
  |.ip cs=>K (.ip cs)
  |.im es=>K (.im es)
  |_=>none
def eS (k:Nat):Nat->PV->(PV->aB R)->aB R
 |0,_,K=>K .undef
 |d+1,x,K=>match x with
  |.own j=>bif Nat.beq j k then K .undef else K (.own j)
  |.el j i o=>bif Nat.beq j k then K .undef else K (.el j i o)
  |.ref j o=>bif Nat.beq j k then K .undef else K (.ref j o)
  |.map j=>bif Nat.beq j k then K .undef else K (.map j)
  |.yld j=>bif Nat.beq j k then K .undef else K (.yld j)
  |.fn f a b=>kills d a fun a=>kills d b fun b=>K (.fn f a b)
  |.agg cs=>kills d cs fun cs=>K (.agg cs)
  |.tup cs=>kills d cs fun cs=>K (.tup cs)
  |x=>K x
 where
 kills (d:Nat):aA PV->(aA PV->aB R)->aB R
 |[],K=>K []
 |x::xs,K=>eS k d x fun x=>kills d xs fun xs=>K (x::xs)
def nL (k:Nat):eQ->(eQ->aB R)->aB R
 |[],K=>K []
 |(j,v)::r,K=>eS k 3 v fun v=>nL k r fun r=>K ((j,v)::r)
def Ez (k:Nat):aA (Nat×Nat×PV)->(aA (Nat×Nat×PV)->aB R)->aB R
 |[],K=>K []
 |(j,i,x)::r,K=>eS k 3 x fun x=>Ez k r fun r=>K ((j,i,x)::r)
def kY (k:Nat):aJ->(aJ->aB R)->aB R
 |[],K=>K []
 |(j,o)::r,K=>match o with
  |.box cs=>eS.kills k 2 cs fun cs=>kY k r fun r=>K ((j,.box cs)::r)
  |.lst ty e g rows=>kY k r fun r=>K ((j,.lst ty e g rows)::r)
  |.mp es=>kY k r fun r=>K ((j,.mp es)::r)
  |.lz ty e dp rows=>kY k r fun r=>K ((j,.lz ty e dp rows)::r)
  |.fl fs=>eS.kills k 2 fs fun fs=>kY k r fun r=>K ((j,.fl fs)::r)
  |.loop N e ps a b busy fin=>nL k e fun e=>kY k r fun r=>K ((j,.loop N e ps a b busy fin)::r)
  |.tr t rows hs=>Ez k hs fun hs=>kY k r fun r=>K ((j,.tr t rows hs)::r)
def cR1 (h:aJ) (e:Nat) (x:PV) (K:aA (aA PV)->aB R):aB R:=
 match x with
 |.is e' rows=>bif Nat.beq e' e then K rows else none
 |.own k=>hK h k fun ob=>match ob with
  |.lst _ e' _ rows=>bif Nat.beq e' e then K rows else none
  |_=>none
 |.v (.slice none 0 0)=>K []
 |_=>none
def Cf (lo hi:Bool) (len:Nat) (bs:aA PV) (K:Int->Int->aB R):aB R:=
 match lo,hi,bs with
 |false,false,[]=>K 0 len
 |true,false,[.v (.int _ l)]=>K l len
 |false,true,[.v (.int _ h)]=>K 0 h
 |true,true,[.v (.int _ l),.v (.int _ h)]=>K l h
 |_,_,_=>none
def Om:aA PV->aA (Nat×Nat)->aA PV->(aA PV->aB R)->aB R
 |cells,[],[],K=>K cells
 |cells,(off,n)::ps,x::xs,K=>mL x fun cs=>bif Nat.beq cs.length n then qK cells off cs fun cells=>Om cells ps xs K else none
 |_,_,_,_=>none
def xU (e:Nat):aA PV->(aA (aA PV)->aB R)->aB R
 |[],K=>K []
 |x::xs,K=>mL x fun cs=>bif Nat.beq cs.length e&&cs.all gZ then xU e xs fun r=>K (cs::r)else none
def cS1:PV->aB (Nat×PV)
 |.zs d e rows=>some (d,.is e rows)
 |x=>bif gZ x then some (0,x)else none
def Fa:aA PV->aB (Nat×aA PV)
 |[]=>some (0,[])
 |x::xs=>match cS1 x,Fa xs with
  |some (d,y),some (d',ys)=>some (bif Nat.blt d d' then d' else d,y::ys)
  |_,_=>none
def fD (d:Nat) (K:Nat->aB R):aB R:=match d with
 |0=>K 0
 |1=>K 1
 |2=>K 2
 |3=>K 3
 |4=>K 4
 |d=>K d
def Fb (e:Nat):aA PV->(Nat->aA (aA PV)->aB R)->aB R
 |[],K=>K 0 []
 |x::xs,K=>mL x fun cs=>match Fa cs with
  |some (d,ys)=>bif Nat.beq ys.length e then Fb e xs fun a r=>fD (bif Nat.blt d a then a else d) fun m=>K m (ys::r)else none
  |none=>none
def cT1:PV->Bool
 |.agg cs=>cs.all gZ
 |x=>gZ x
def Kr:Nat->aA Nat->Bool
 |_,[]=>true
 |i,j::js=>bif Nat.beq i j then Kr (i+1) js else false
def mnK (mx:Bool) (k:IntKind):Int->aA PV->(Int->aB R)->aB R
 |a,[],K=>K a
 |a,.v (.int k' b)::r,K=>bif kEq k k' then mnK mx k (bif mx then(if b>a then b else a)else(if b<a then b else a)) r K else none
 |_,_,_=>none
def jW1 (i:Int) (K:Nat->aB R):aB R:=
 match i with
 |.ofNat i=>K i
 |_=>none
def On (i:Int):Nat->(Nat->aB R)->aB R
 |0,_=>none
 |m+1,K=>Ms (i==(m:Int)) (K m) (On i m K)
def ztK (c:Nat):Nat->aA PV->(aA PV->aB R)->aB R
 |_,[],K=>K []
 |j,x::xs,K=>ztK c (j+1) xs fun l=>bif Nat.beq j c then(match x with|.is e r=>K (.zs 1 e r::l)|_=>none)else K (x::l)
def eZ:aA (Nat×TD)->Nat->aB TD
 |[],_=>none
 |(j,t)::r,o=>bif Nat.beq j o then some t else eZ r o
def xV (ks:aA (Nat×TD)):Nat->aA PV->(aA PV->aB R)->aB R
 |_,[],K=>K []
 |o,x::xs,K=>match eZ ks o with
  |some _=>xV ks (o+1) xs fun xs=>K (.undef::xs)
  |none=>xV ks (o+1) xs fun xs=>K (x::xs)
def Fc:aA (Nat×Nat×PV)->Nat->aB (Nat×PV)
 |[],_=>none
 |(j,i,x)::r,o=>bif Nat.beq j o then some (i,x)else Fc r o
def Yj:aA (Nat×Nat×PV)->Nat->aA (Nat×Nat×PV)
 |[],_=>[]
 |(j,i,x)::r,o=>bif Nat.beq j o then r else(j,i,x)::Yj r o
def Oo (i j:Nat):aB Unit:=if i=j then some ()else none
def Vm (hs:aA (Nat×Nat×PV)) (o i:Nat) (K:aA (Nat×Nat×PV)->aB R):aB R:=
 match Fc hs o with
 |none=>K hs
 |some (i',_)=>bP (Oo i i') fun _=>K (Yj hs o)
def xW (ks:aA (Nat×TD)) (i:Nat):Nat->aA PV->aA (Nat×Nat×PV)->(aA PV->aA (Nat×Nat×PV)->aB R)->aB R
 |_,[],hs,K=>K [] hs
 |o,y::ys,hs,K=>match eZ ks o with
  |none=>bif gZ y then xW ks i (o+1) ys hs fun l hs=>K (y::l) hs else none
  |some (.nd _ e _)=>match y with
   |.own kc=>Vm hs o i fun hs=>match Fc hs o with
    |none=>xW ks i (o+1) ys ((o,i,.own kc)::hs) fun l hs=>K (.is e []::l) hs
    |some _=>none
   |.v (.slice none 0 0)=>Vm hs o i fun hs=>match Fc hs o with
    |none=>xW ks i (o+1) ys hs fun l hs=>K (.is e []::l) hs
    |some _=>none
   |_=>none
def Bv:TD->aA (aA PV)->cS
 |.nd ty e [],rows=>.lst ty e true rows
 |t,rows=>.tr t rows []
def Oq (ks:aA (Nat×TD)) (i o:Nat) (cs0:aA PV):aA Nat->aA PV->aA (Nat×Nat×PV)->aJ->Nat->(aA PV->aA (Nat×Nat×PV)->aJ->Nat->aB R)->aB R
 |[],cs,hs,h,n,K=>K cs hs h n
 |j::js,cs,hs,h,n,K=>match eZ ks j with
  |some t=>bif Nat.ble o j then match Fc hs j with
   |some (i',x)=>bP (Oo i i') fun _=>qK cs (j-o) [x] fun cs=>Oq ks i o cs0 js cs hs h n K
   |none=>bif vA t then none else iX (j-o) cs0 fun l=>match l with
    |.is _ rows::_=>qK cs (j-o) [.own n] fun cs=>Oq ks i o cs0 js cs ((j,i,.own n)::hs) ((n,Bv t rows)::h) (n+1) K
    |_=>none
   else none
  |none=>none
def uA1 (t:TD) (ob:cS) (K:Nat->aA (aA PV)->aB R):aB R:=
 match ob with
 |.lst ty e _ rows=>bif dY ty then none else bif Kp 2 (.nd (bif vA t then ty+8589934592 else ty) e []) t then K e rows else none
 |.tr t' rows []=>bif Kp 8 t' t then(match t with|.nd _ e _=>K e rows)else none
 |_=>none
def vY:aA (Nat×Nat×PV)->Nat->aB (Nat×Nat)
 |[],_=>none
 |(j,i,.own k)::r,kc=>bif Nat.beq k kc then some (j,i)else vY r kc
 |_::r,kc=>vY r kc
def vL:aA (Nat×Nat×PV)->Nat->aA (Nat×Nat×PV)
 |[],_=>[]
 |(j,i,.own k)::r,kc=>bif Nat.beq k kc then r else(j,i,.own k)::vL r kc
 |x::r,kc=>x::vL r kc
def jX1 (a:Nat):aJ->aB Nat
 |[]=>none
 |(kp,o)::r=>match o with
  |.tr _ _ hs=>match vY hs a with
   |some _=>some kp
   |none=>jX1 a r
  |_=>jX1 a r
def Ot (k:Nat):Nat->PV->Bool
 |0,_=>true
 |d+1,x=>match x with
  |.ref j _|.own j|.el j _ _|.map j|.yld j=>Nat.beq j k
  |.fn _ a b=>a.any (Ot k d)||b.any (Ot k d)
  |.agg cs=>cs.any (Ot k d)
  |.tup cs=>cs.any (Ot k d)
  |_=>false
def uB1 (k:Nat):cS->Bool
 |.box cs=>cs.any (Ot k 5)
 |.fl cs=>cs.any (Ot k 5)
 |.loop _ e _ _ _ _ _=>e.any fun q=>Ot k 5 q.2
 |_=>false
def rJ1 (k:Nat) (e:eQ) (h:aJ):Bool:=(e.any fun q=>Ot k 5 q.2)||h.any fun q=>uB1 k q.2
def fE (k:gC) (xs:aA PV) (h:aJ) (n:Nat) (K:PV->aJ->Nat->aB R):aB R:=
 match k,xs with
 |.mov,[x]=>K x h n
 |.nilc,[x]=>match x with
  |.ref .. |.ip .. |.el .. |.fn .. |.yld .. |.zp .. =>K x h n
  |_=>none
 |.box _ size,[x]=>mL x fun cs=>bif Nat.beq cs.length size then(bif Nat.beq size 0 then none else K (.ref n 0) ((n,.box cs)::h) (n+1))else none
 |.alloc _ zero,[]=>vW (zero.map .v) fun cs=>K (.ref n 0) ((n,.box cs)::h) (n+1)
 |.build zero parts,xs=>vW (zero.map .v) fun cs=>Om cs parts xs fun cs=>K (.agg cs) h n
 |.buildSl ty e len zero parts,xs=>bif Kr 0 parts&&(Nat.beq zero.length e&& !(dY ty))then(bif Nat.beq parts.length len then bif xs.all cT1 then xU e xs fun rows=>bif Nat.beq rows.length len then K (.own n) ((n,.lst ty e false rows)::h) (n+1)else none else Fb e xs fun dp rows=>bif Nat.beq rows.length len then K (.own n) ((n,.lz ty e dp rows)::h) (n+1)else none else none)else none
 |.loadS,[p]=>match p with
  |.ref k o=>hK h k fun ob=>match ob with
   |.box cs=>iX o cs fun cs=>match cs with
    |c::_=>K c h n
    |[]=>none
   |_=>none
  |.ip cs=>match cs with
   |c::_=>K c h n
   |[]=>none
  |.zp cs=>match cs with
   |c::_=>K c h n
   |[]=>none
  |.el k i o=>hK h k fun ob=>match ob with
   |.lst _ _ _ rows=>bP (lB rows i o) fun c=>K c h n
   |.fl fs=>bif Nat.beq o 0 then(iX i fs fun fs=>match fs with
    |f::_=>K f h n
    |[]=>none)else none
   |.tr t rows _=>match eZ t.ks o with
    |some _=>bP (lB rows i o) fun _=>K .undef h n
    |none=>bP (lB rows i o) fun c=>K c h n
   |_=>none
  |_=>none
 |.loadA m,[p]=>match p with
  |.ref k o=>hK h k fun ob=>match ob with
   |.box cs=>iX o cs fun cs=>qJ m cs fun cs=>K (.agg cs) h n
   |_=>none
  |.ip cs=>qJ m cs fun cs=>K (.agg cs) h n
  |.zp cs=>qJ m cs fun cs=>K (.agg cs) h n
  |.el k i o=>hK h k fun ob=>match ob with
   |.lst _ _ _ rows=>bP (lZ rows i o m) fun cs=>K (.agg cs) h n
   |.tr t rows _=>bP (lZ rows i o m) fun cs=>xV t.ks o cs fun cs=>K (.agg cs) h n
   |_=>none
  |_=>none
 |.store m,[p,x]=>match p with
  |.ref k o=>hK h k fun ob=>match ob with
   |.box cs=>mL x fun ys=>bif Nat.beq ys.length m then qK cs o ys fun cs=>gA h k (.box cs) fun h=>K .undef h n else none
   |_=>none
  |.el k i o=>hK h k fun ob=>match ob with
   |.lst ty e g rows=>mL x fun ys=>bif Nat.beq ys.length m&&ys.all gZ then bP (oS rows i o ys) fun rows=>gA h k (.lst ty e g rows) fun h=>K .undef h n else none
   |.tr t rows hs=>mL x fun ys=>bif Nat.beq ys.length m then xW t.ks i o ys hs fun ys hs=>bP (oS rows i o ys) fun rows=>gA h k (.tr t rows hs) fun h=>K .undef h n else none
   |_=>none
  |_=>none
 |.fad off,[p]=>match p with
  |.ref k o=>K (.ref k (o+off)) h n
  |.ip cs=>iX off cs fun cs=>K (.ip cs) h n
  |.zp cs=>iX off cs fun cs=>K (.zp cs) h n
  |.el k i o=>K (.el k i (o+off)) h n
  |_=>none
 |.iad e,[x,i]=>match i with
  |.v (.int _ i)=>match x with
   |.is e' rows=>bif Nat.beq e' e then bP (mM rows i) fun row=>K (.ip row) h n else none
   |.zs dp e' rows=>bif Nat.beq e' e&&Nat.ble dp 1 then bP (mM rows i) fun row=>K (.zp row) h n else none
   |.zt c e' rows=>bif Nat.beq e' e then bP (mM rows i) fun row=>ztK c 0 row fun row=>K (.zp row) h n else none
   |.own k=>hK h k fun ob=>match ob with
    |.lst _ e' _ rows=>bif Nat.beq e' e then bP (sI rows.length i) fun i=>K (.el k i 0) h n else none
    |.fl fs=>bif Nat.beq e 1 then jW1 i (fun i=>bif Nat.blt i fs.length then K (.el k i 0) h n else none)else none
    |.tr t rows _=>match t with|.nd _ e' _=>bif Nat.beq e' e then bP (sI rows.length i) fun i=>K (.el k i 0) h n else none
    |_=>none
   |_=>none
  |_=>none
 |.iadA len esz,[p,i]=>match i with
  |.v (.int _ i)=>match p with
   |.ref k o=>On i len fun j=>K (.ref k (o+j*esz)) h n
   |_=>none
  |_=>none
 |.idxStr,[x,i]=>match x,i with
  |.v (.string s),.v (.int _ i)=>bP (tJ s i) fun b=>K (.v (.int .u8 b)) h n
  |_,_=>none
 |.idxA len e agg,[x,i]=>match x,i with
  |.agg cs,.v (.int _ i)=>bif agg then bP (tK cs i len e) fun cs=>K (.agg cs) h n else bP (xQ cs i len e) fun c=>K c h n
  |_,_=>none
 |.bin op,[x,y]=>tZ1 op x y fun v=>K v h n
 |.eqB neg,[x,y]=>match x,y with
  |.v (.bool a),.v (.bool b)=>K (.v (.bool ((a==b)!=neg))) h n
  |_,_=>none
 |.eqA neg ks,[x,y]=>match x,y with
  |.agg as,.agg bs=>jV1 ks as bs fun r=>K (.v (.bool (r !=neg))) h n
  |_,_=>none
 |.un op,[x]=>match op,x with
  |.not,.v (.bool b)=>K (.v (.bool !b)) h n
  |.neg,.v (.int k m)=>K (.v (.int k (k.wrap (0-m)))) h n
  |.xor,.v (.int k m)=>K (.v (.int k (k.wrap (BitVec.ofInt k.bits (if k.signed then -1 else k.max)^^^BitVec.ofInt k.bits m).toNat))) h n
  |_,_=>none
 |.convI k,[x]=>match x with
  |.v (.int _ m)=>K (.v (.int k (k.wrap m))) h n
  |_=>none
 |.s2b _,[x]=>match x with
  |.v (.string s)=>K (.is 1 (byteRows s)) h n
  |_=>none
 |.mkfn f m,xs=>match f with
  |.func f=>qJ m xs fun a=>iX m xs fun b=>K (.fn f a b) h n
  |_=>none
 |.mkmap,[]=>K (.map n) ((n,.mp [])::h) (n+1)
 |.mksl ty e _ zero,[l,c]=>match l,c with
  |.v (.int _ l),.v (.int _ c)=>bif dY ty then none else vW (zero.map .v) fun z=>bP (oT l c z) fun rows=>K (.own n) ((n,.lst ty e true rows)::h) (n+1)
  |_,_=>none
 |.slc e lo hi mx,x::bs=>bif mx then none else match x with
  |.is e' rows=>bif Nat.beq e' e then Cf lo hi rows.length bs fun l r=>bP (qL rows l r) fun rows=>K (.is e rows) h n else none
  |_=>none
 |.lookup agg ks zero ok,[m,k]=>
  match zero with
  |.v z=>match m with
   |.im es=>bif eY 2 k then(bif ok then bP (xT agg ks (.v z) k es) fun r=>K (.tup [r.1,.v (.bool r.2)]) h n else bP (vX agg ks (.v z) k es) fun r=>K r h n)else none
   |.zm es=>bif eY 2 k then(bif ok then bP (xT agg ks (.v z) k es) fun r=>K (.tup [r.1,.v (.bool r.2)]) h n else bP (vX agg ks (.v z) k es) fun r=>K r h n)else none
   |.map j=>hK h j fun ob=>match ob with
    |.mp es=>bif eY 2 k then(bif ok then bP (xT agg ks (.v z) k es) fun r=>K (.tup [r.1,.v (.bool r.2)]) h n else bP (vX agg ks (.v z) k es) fun r=>K r h n)else none
    |_=>none
   |_=>none
  |_=>none
 |.mapup agg ks,[m,k,x]=>match m with
  |.map j=>hK h j fun ob=>match ob with
   |.mp es=>bif Sv k&&Sv x then bP (Ey agg ks k x es) fun es=>gA h j (.mp es) fun h=>K .undef h n else none
   |_=>none
  |_=>none
 |.len kd,[x]=>match x with
  |.is _ rows=>bif Nat.beq kd 0 then bP (some rows.length) fun m=>K (.v (.int .i64 m)) h n else none
  |.own k=>bif Nat.beq kd 0 then hK h k fun ob=>match ob with
   |.lst _ _ _ rows=>bP (some rows.length) fun m=>K (.v (.int .i64 m)) h n
   |.lz _ _ _ rows=>bP (some rows.length) fun m=>K (.v (.int .i64 m)) h n
   |.fl fs=>K (.v (.int .i64 fs.length)) h n
   |.tr _ rows _=>bP (some rows.length) fun m=>K (.v (.int .i64 m)) h n
   |_=>none else none
  |.zs _ _ rows=>bif Nat.beq kd 0 then bP (some rows.length) fun m=>K (.v (.int .i64 m)) h n else none
  |.zt _ _ rows=>bif Nat.beq kd 0 then bP (some rows.length) fun m=>K (.v (.int .i64 m)) h n else none
  |.v (.slice none 0 0)=>bif Nat.beq kd 0 then K (.v (.int .i64 0)) h n else none
  |.v (.string s)=>bif Nat.beq kd 1 then K (.v (.int .i64 s.size)) h n else none
  |_=>none
 |.mx,x::xs=>match x with
  |.v (.int k a)=>mnK true k a xs fun r=>K (.v (.int k r)) h n
  |_=>none
 |.ext i,[x]=>match x with
  |.tup vs=>iX i vs fun vs=>match vs with
   |v::_=>K v h n
   |[]=>none
  |_=>none
 |_,_=>none
structure NX where
 is:FuncId->Bool
 nw:FuncId->Bool
 xw:FuncId->Bool
 run:{R:Type}->FuncId->List PV->aJ->Nat->(PV->aJ->Nat->Option R)->Option R
 yld:{R:Type}->Nat->List PV->aJ->Nat->(PV->aJ->Nat->Option R)->Option R
abbrev zE:=FuncId->aA PV->aB PV
def Cg (h:aJ):aA PV->(aA PV->aB R)->aB R
 |[],K=>K []
 |x::xs,K=>Kq h 5 x fun x=>Cg h xs fun xs=>K (x::xs)
def Bf (C:zE) (f:FuncId) (xs:aA PV) (h:aJ) (K:PV->aB R):aB R:=
 bif xs.all (eY 4)then bP (C f xs) fun v=>fV v K
 else Cg h xs fun xs=>bP (C f xs) fun v=>fV v fun v=>bif zV 4 v then K v else none
def Vn (h:aJ) (es dp:Nat) (x:PV) (K:aA (aA PV)->aB R):aB R:=
 match x with
 |.is e' rows=>bif Nat.beq e' es then K rows else none
 |.own k=>hK h k fun ob=>match ob with
  |.lst _ e' _ rows=>bif Nat.beq e' es then K rows else none
  |.lz _ e' dp' rows=>bif Nat.beq e' es&&Nat.ble dp' dp then K rows else none
  |_=>none
 |.zs d e' rows=>bif Nat.beq e' es&&Nat.ble d (dp+1)then K rows else none
 |.v (.slice none 0 0)=>K []
 |_=>none
def cU1 (e:eQ) (h:aJ) (d ty es:Nat) (kill:aA Nat) (k:Nat) (t:TD) (rows:aA (aA PV)) (hs:aA (Nat×Nat×PV)) (a:Nat) (b:cS) (K:eQ->aJ->aB R):aB R:=
 match t,hs,b with
 |.nd ty' es' ks,[],.tr t2 rows2 []=>bif (Nat.beq es' es&&Nat.beq ty' ty)&&(Kp 8 t2 (.nd ty' es' ks)&& !(Nat.beq k a))then bP (appRows true rows rows2) fun rows=>
   iY e (d::kill) fun e=>nL k e fun e=>nL a e fun e=>kY k h fun h=>kY a h fun h=>gA h a (.lst 0 0 true []) fun h=>gA h k (.tr (.nd ty' es' ks) rows []) fun h=>K ((d,.own k)::e) h
  else none
 |_,_,_=>none
def uC1 (e:eQ) (h:aJ) (d ty es:Nat) (kill:aA Nat) (s x:PV) (K:eQ->aJ->aB R):aB R:=
 match s with
 |.own k=>hK h k fun ob=>match ob with
  |.lst ty' es' g rows=>cR1 h es x fun new=>bif Nat.beq es' es&&(Nat.beq ty' ty&& !(dY ty'))then bP (appRows g rows new) fun rows=>
    iY e (d::kill) fun e=>nL k e fun e=>kY k h fun h=>gA h k (.lst ty' es' g rows) fun h=>K ((d,.own k)::e) h
   else none
  |.lz ty' es' dp rows=>Vn h es dp x fun new=>bif Nat.beq es' es&&(Nat.beq ty' ty&& !(dY ty'))then bP (appRows false rows new) fun rows=>
    iY e (d::kill) fun e=>nL k e fun e=>kY k h fun h=>gA h k (.lz ty' es' dp rows) fun h=>K ((d,.own k)::e) h
   else none
  |.tr t rows hs=>match x with
   |.own k2=>hK h k2 fun a=>cU1 e h d ty es kill k t rows hs k2 a K
   |_=>none
  |_=>none
 |_=>none
def sJ (f:PV->aA Nat->(aA Nat->aB R)->aB R):aA PV->aA Nat->(aA Nat->aB R)->aB R
 |[],a,K=>K a
 |x::xs,a,K=>f x a fun a=>sJ f xs a K
def Ou (f:PV->aA Nat->(aA Nat->aB R)->aB R):eQ->aA Nat->(aA Nat->aB R)->aB R
 |[],a,K=>K a
 |(_,x)::xs,a,K=>f x a fun a=>Ou f xs a K
def mA:Nat->PV->aA Nat->(aA Nat->aB R)->aB R
 |0,_,_,_=>none
 |d+1,x,a,K=>match x with
  |.ref k _=>K (k::a)
  |.own k=>K (k::a)
  |.el k _ _=>K (k::a)
  |.map k=>K (k::a)
  |.yld k=>K (k::a)
  |.fn _ p q=>sJ (mA d) p a fun a=>sJ (mA d) q a K
  |.agg cs=>sJ (mA d) cs a K
  |.tup cs=>sJ (mA d) cs a K
  |_=>K a
def mN (h:aJ):Nat->aA Nat->aA Nat->(aA Nat->aB R)->aB R
 |0,_,_,_=>none
 |_+1,[],a,K=>K a
 |n+1,k::b,a,K=>bif vB k a then mN h n b a K else hK h k fun ob=>match ob with
  |.box cs=>sJ (mA 4) cs b fun b=>mN h n b (k::a) K
  |.fl cs=>sJ (mA 4) cs b fun b=>mN h n b (k::a) K
  |.loop _ e _ _ _ _ _=>Ou (mA 4) e b fun b=>mN h n b (k::a) K
  |.tr _ _ hs=>sJ (mA 4) (hs.map fun q=>q.2.2) b fun b=>mN h n b (k::a) K
  |_=>mN h n b (k::a) K
def Ov:aJ->aA Nat->(aJ->aJ->aB R)->aB R
 |[],_,K=>K [] []
 |(k,o)::r,ns,K=>Ov r ns fun a b=>bif vB k ns then K ((k,o)::a) b else K a ((k,o)::b)
def gM:aJ->Nat->Bool
 |[],_=>false
 |(j,_)::r,k=>bif Nat.beq j k then true else gM r k
def nM (p:Nat->Bool):Nat->PV->Bool
 |0,_=>false
 |d+1,x=>match x with
  |.ref k _|.own k|.el k _ _|.map k|.yld k=>p k
  |.fn _ a b=>a.all (nM p d)&&b.all (nM p d)
  |.agg cs=>cs.all (nM p d)
  |.tup cs=>cs.all (nM p d)
  |_=>true
def Ks (p:Nat->Bool):cS->Bool
 |.box cs=>cs.all (nM p 4)
 |.fl cs=>cs.all (nM p 4)
 |.loop _ e _ _ _ _ _=>e.all fun q=>nM p 4 q.2
 |.tr _ _ hs=>hs.all fun q=>nM p 4 q.2.2
 |_=>true
def mB (p:Nat->Bool):aJ->Bool
 |[]=>true
 |(_,o)::r=>Ks p o&&mB p r
def pZ:aJ->eQ->aJ->(eQ->aJ->aB R)->aB R
 |[],e,h,K=>K e h
 |(k,o)::r,e,h,K=>match o with
  |.lst ty .. =>bif dY ty then pZ r e h K else nL k e fun e=>kY k h fun h=>pZ r e h K
  |.lz .. =>nL k e fun e=>kY k h fun h=>pZ r e h K
  |.tr .. =>nL k e fun e=>kY k h fun h=>pZ r e h K
  |_=>pZ r e h K
def sO:aJ->Bool
 |[]=>true
 |(_,o)::r=>match o with
  |.tr .. =>false
  |_=>sO r
def xX:aJ->aJ->(aJ->aB R)->aB R
 |[],b,K=>K b
 |(k,o)::r,b,K=>xX r b fun r=>K ((k,o)::r)
def tL:aJ->aA Nat
 |[]=>[]
 |(k,_)::r=>k::tL r
def Yk (hs:aJ) (n:Nat):aJ->Bool
 |[]=>true
 |(k,_)::r=>bif gM hs k||Nat.ble n k then Yk hs n r else false
def Yl (a:aJ):aA Nat->Bool
 |[]=>true
 |k::r=>bif gM a k then Yl a r else false
def Ym (hs:aJ):aJ->Bool
 |[]=>true
 |(k,_)::r=>bif gM hs k then Ym hs r else false
def bnd:aJ->Nat->Nat
 |[],m=>m
 |(k,_)::r,m=>bif Nat.blt k m then bnd r m else bnd r (k+1)
def Fe (hs:aJ) (nw:Bool) (n:Nat) (v:PV) (h':aJ) (n':Nat):aB (PV×aJ×Nat):=
 sJ (mA 5) [v] (tL hs) fun a=>mN h' 60 a [] fun b=>Ov h' b fun h2 _=>
  bif Yl h2 (tL hs)&&(bif nw then Yk hs n h2 else Ym hs h2)&&(nM (gM h2) 5 v&&mB (gM h2) h2)then some (v,h2,bif nw then n' else 0)else none
def inK (run:aJ->Nat->(PV->aJ->Nat->aB (PV×aJ×Nat))->aB (PV×aJ×Nat)) (nw:Bool) (xs:aA PV) (e:eQ) (h:aJ) (n:Nat) (kill:aA Nat) (K:PV->eQ->aJ->Nat->aB R):aB R:=
 sJ (mA 5) xs [] fun a=>mN h 60 a [] fun c=>Ov h c fun hs b=>
  bif xs.all (nM (gM hs) 5)&&(mB (gM hs) hs&&(sO hs||sO b))then
   bP (run hs (bif nw then n else bnd hs 0) (Fe hs nw (bif nw then n else bnd hs 0))) fun r=>
    fV r.1 fun v=>xX r.2.1 [] fun h2=>iY e kill fun e=>pZ h2 e b fun e b=>xX h2 b fun h=>K v e h (bif nw then r.2.2 else n)
  else none
def sP (m:Nat) (o:Bool) (p:Nat->Bool):Nat->PV->Bool
 |0,_=>false
 |d+1,x=>match x with
  |.v _|.is _ _|.ip _|.im _=>true
  |.zs dp _ _=>Nat.ble dp m
  |.zt _ _ _=>Nat.ble 2 m
  |.ref k _=>p k
  |.own k=>o&&p k
  |.fn _ a b=>a.all (sP m o p d)&&b.all (sP m o p d)
  |.agg cs=>cs.all (sP m o p d)
  |.tup cs=>cs.all (sP m o p d)
  |_=>false
def sK (k:Nat):Nat->PV->Bool
 |0,_=>false
 |d+1,x=>match x with
  |.ref j _=>Nat.beq j k
  |.fn _ a b=>a.any (sK k d)||b.any (sK k d)
  |.agg cs=>cs.any (sK k d)
  |.tup cs=>cs.any (sK k d)
  |_=>false
def Ow (p:Nat->Bool):aJ->Bool
 |[]=>true
 |(_,o)::r=>(match o with|.box cs=>cs.all (sP 1 false p 5)|_=>false)&&Ow p r
def cV1 (p:Nat->Bool):aJ->Bool
 |[]=>true
 |(_,o)::r=>(match o with|.lst ty _ _ _=> !(dY ty)|.tr _ _ hs=>hs.isEmpty|.box cs=>cs.all (sP 1 false p 5)|_=>false)&&cV1 p r
def Ox (p:Nat->Bool):aJ->(aJ->aJ->aB R)->aB R
 |[],K=>K [] []
 |(k,o)::r,K=>Ox p r fun a b=>bif p k then K ((k,o)::a) b else K a ((k,o)::b)
def uD1:aA PV->(aA PV->aB R)->aB R
 |[],K=>K []
 |_::r,K=>uD1 r fun r=>K (.undef::r)
def jZ1:aJ->(aJ->aB R)->aB R
 |[],K=>K []
 |(k,o)::r,K=>jZ1 r fun r=>match o with
  |.box cs=>uD1 cs fun cs=>K ((k,.box cs)::r)
  |_=>none
def inN (b:Bool) (run:aJ->Nat->(PV->aJ->Nat->aB (PV×aJ×Nat))->aB (PV×aJ×Nat)) (nw:Bool) (xs:aA PV) (e:eQ) (h:aJ) (n:Nat) (kill:aA Nat) (K:PV->eQ->aJ->Nat->aB R):aB R:=
 Ox (fun k=>xs.any (sK k 5)) h fun hs a=>
  bif nw&&(xs.all (sP 5 false (gM hs) 5)&&(Ow (fun _=>false) hs&&(b||hs.isEmpty)))then
   bP (run hs n (Fe hs true n)) fun r=>Ox (gM hs) r.2.1 fun old new=>
    bif Ow (gM r.2.1) old&&(cV1 (gM r.2.1) new&&sP 5 true (gM r.2.1) 5 r.1)then
     fV r.1 fun v=>jZ1 old fun old=>xX old a fun a=>xX new a fun h=>iY e kill fun e=>K v e h r.2.2
    else none
  else none
def Sw:aJ->(aJ->aB R)->aB R
 |[],K=>K []
 |(k,o)::r,K=>match o with
  |.lst ty e g rows=>bif dY ty then none else Sw r fun r=>K ((k,.lst (ty+4294967296) e g rows)::r)
  |.lz .. =>none
  |o=>Sw r fun r=>K ((k,o)::r)
def Bg:aJ->aJ->(aJ->aB R)->aB R
 |_,[],K=>K []
 |h,(k,o)::r,K=>hK h k fun a=>match a with
  |.lst .. =>match o with
   |.lst ty e g rows=>bif dY ty&& !(dY (ty-4294967296))then Bg h r fun r=>K ((k,.lst (ty-4294967296) e g rows)::r)else none
   |_=>none
  |_=>match o with
   |.lst .. =>none
   |.lz .. =>none
    |o=>Bg h r fun r=>K ((k,o)::r)
def kA1 (fx:Bool) (run:aJ->Nat->(PV->aJ->Nat->aB (PV×aJ×Nat))->aB (PV×aJ×Nat)) (nw:Bool) (xs:aA PV) (e:eQ) (h:aJ) (n:Nat) (kill:aA Nat) (K:PV->eQ->aJ->Nat->aB R):aB R:=
 bif fx then Sw h fun h1=>inK run nw xs e h1 n kill fun v e h2 n=>Bg h h2 fun a=>K v e a n
 else inK run nw xs e h n kill K
def Oy (p:Nat->Bool):aJ->(aJ->aB R)->aB R
 |[],K=>K []
 |(k,o)::r,K=>bif p k then(match o with
  |.lst ty e g rows=>bif dY ty then none else Oy p r fun r=>K ((k,.lst (ty+4294967296) e g rows)::r)
  |o=>Oy p r fun r=>K ((k,o)::r))else Oy p r fun r=>K ((k,o)::r)
def vZ (p:Nat->Bool):aJ->(aJ->aB R)->aB R
 |[],K=>K []
 |(k,o)::r,K=>bif p k then(match o with
  |.lst ty e g rows=>bif dY ty&& !(dY (ty-4294967296))then vZ p r fun r=>K ((k,.lst (ty-4294967296) e g rows)::r)else none
  |_=>none)else vZ p r fun r=>K ((k,o)::r)
def elN (xs:aA PV) (k:Nat):Bool:=xs.any fun x=>match x with
 |.el j _ _=>Nat.beq j k
 |_=>false
def uE1 (fx:Bool) (run:aJ->Nat->(PV->aJ->Nat->aB (PV×aJ×Nat))->aB (PV×aJ×Nat)) (nw:Bool) (xs:aA PV) (e:eQ) (h:aJ) (n:Nat) (kill:aA Nat) (K:PV->eQ->aJ->Nat->aB R):aB R:=
 bif fx then Oy (elN xs) h fun h1=>inK run nw xs e h1 n kill fun v e h2 n=>vZ (elN xs) h2 fun a=>K v e a n
 else inK run nw xs e h n kill K
def Sx (e:eQ) (h:aJ) (d es:Nat) (kill:aA Nat) (k:Nat) (hi:Int) (K:eQ->aJ->aB R):aB R:=
 hK h k fun ob=>match ob with
 |.lst ty es' _ rows=>bif Nat.beq es' es&& !(dY ty)then bP (uE rows hi) fun rows=>
   iY e (d::kill) fun e=>nL k e fun e=>kY k h fun h=>gA h k (.lst ty es' true rows) fun h=>K ((d,.own k)::e) h
  else none
 |_=>none
def opK (C:zE) (X:NX) (k:gC) (as:aA PV) (h:aJ) (n:Nat) (K:PV->aJ->Nat->aB R):aB R:=
 match k,as with
 |.callF f,as=>bif X.is f then none else Bf C f as h fun v=>K v h n
 |.callV,.fn f first cap::as=>bif X.is f then none else Bf C f (first++as++cap) h fun v=>K v h n
 |k,as=>fE k as h n K
def Yn:aA (aB Nat)->aA PV->(aA PV->aB R)->aB R
 |[],[],K=>K []
 |o::os,x::xs,K=>Yn os xs fun xs=>match o with
  |none=>K (x::xs)
  |some e=>match x with
   |.v (.slice none 0 0)=>K (.is e []::xs)
   |_=>none
 |_,_,_=>none
def oV (ty e:Nat) (g:Bool):cS:=bif Nat.ble 4294967296 e then .lz ty (e%4294967296) (e/4294967296) []else .lst ty e g []
def Im:Bool->cS->aB PV
 |false,.lst ty e _ rows=>bif dY ty then none else some (.zs 1 e rows)
 |false,.lz _ e dp rows=>some (.zs (dp+1) e rows)
 |false,.tr (.nd ty e [(c,.nd _ _ [])]) rows []=>some (.zt c e rows)
 |false,.tr (.nd ty e ks) rows []=>bif xP 4 (.nd ty e ks)then some (.zs 5 e rows)else none
 |true,.mp es=>some (.zm es)
 |_,_=>none
def Oz:aJ->Nat->(aJ->aB R)->aB R
 |[],_,K=>K []
 |(j,o)::r,k,K=>bif Nat.beq j k then Oz r k K else Oz r k fun r=>K ((j,o)::r)
def fzK (e:eQ) (h:aJ) (d:Nat) (m:Bool) (k:Nat) (j:aB Nat) (K:eQ->aJ->aB R):aB R:=
 hK h k fun ob=>match Im m ob with
 |some x=>nL k e fun e=>kY k h fun h=>gA h k (.lst 0 0 true []) fun h=>match j with
  |none=>iY e [d] fun e=>K ((d,x)::e) h
  |some j=>rR e d fun v=>match v with
   |.agg cs=>qK cs j [x] fun cs=>iY e [d] fun e=>K ((d,.agg cs)::e) h
   |_=>none
 |none=>none
def Ff:PV->aB (Bool×Nat)
 |.own k=>some (false,k)
 |.map k=>some (true,k)
 |_=>none
def Pa:gC->Bool
 |.store _|.mapup .. =>true
 |_=>false
def kB1:PV->Bool
 |.fn .. =>true
 |_=>false
def cG:jJ->aA Nat->aA Nat
 |.nil,a=>a
 |.op d _ _ _ r,a=>d::cG r a
 |.sto _ _ _ r,a=>cG r a
 |.ifx d _ _ b _ _ r,a=>d::cG b (cG r a)
 |.ifn d _ _ b _ _ r,a=>d::cG b (cG r a)
 |.mkfl d _ _ _ _ r,a=>d::cG r a
 |.lax _ _ r,a=>cG r a
 |.own _ _ _ _ r,a=>cG r a
 |.ownc _ _ _ _ _ r,a=>cG r a
 |.laxc _ _ _ r,a=>cG r a
 |.fz _ _ r,a=>cG r a
 |.laxm _ _ r,a=>cG r a
 |.opn d _ _ _ _ r,a=>d::cG r a
 |.bst d _ _ _ _ _ _ r,a=>d::cG r a
 |.gc _ r,a=>cG r a
 |.clr d _ _ _ _ _ r,a=>d::cG r a
 |.tre _ _ _ r,a=>cG r a
 |.up _ r,a=>cG r a
def cW1 (a:Nat):aJ->Bool
 |[]=>false
 |(k,o)::r=>bif Nat.beq k a then(match o with|.tr _ _ (_::_)=>true|_=>false)else cW1 a r
def uF1 (e:eQ) (h:aJ) (a:Nat) (K:eQ->aJ->aB R):aB R:=
 bif rJ1 a e h||cW1 a h then K e h else match jX1 a h with
 |none=>K e h
 |some kp=>hK h kp fun op=>match op with
  |.tr t rows hs=>match vY hs a with
   |some (j,i)=>match eZ t.ks j with
    |some t'=>hK h a fun ob=>uA1 t' ob fun es rows'=>bP (oS rows i j [.is es rows']) fun b=>
      nL a e fun e=>kY a h fun h=>gA h a (.lst 0 0 true []) fun h=>Ez a (vL hs a) fun hs=>gA h kp (.tr t b hs) fun h=>K e h
    |none=>none
   |none=>none
  |_=>none
def gcK:aA Nat->eQ->aJ->(eQ->aJ->aB R)->aB R
 |[],e,h,K=>K e h
 |k::ks,e,h,K=>uF1 e h k fun e h=>gcK ks e h K
def xY (rows:aA (aA PV)) (lo:Int) (z:aA PV):aB (aA (aA PV)):=if 0<=lo/\lo<=rows.length then some (rows.take lo.toNat++List.replicate (rows.length-lo.toNat) z)else none
def cX1:PV->Bool
 |.own _=>true
 |.el .. =>true
 |_=>false
def Vo:aJ->aA Nat->(aJ->aB R)->aB R
 |[],_,K=>K []
 |(k,o)::r,ns,K=>Vo r ns fun r=>match o with
  |.box cs=>bif vB k ns|| !(cs.any cX1)then K ((k,.box cs)::r)else K ((k,.box (cs.map fun _=>.undef))::r)
  |o=>K ((k,o)::r)
def Io:eQ->aA Nat->(eQ->aB R)->aB R
 |[],_,K=>K []
 |(j,v)::r,ks,K=>bif vB j ks then Io r ks fun r=>K ((j,v)::r)else Io r ks K
def Ip (ks:aA (Nat×TD)) (es:Nat):Nat->aA PV->aA (Nat×Nat×PV)->(aA (aA PV)->aA (Nat×Nat×PV)->aB R)->aB R
 |_,[],hs,K=>K [] hs
 |i,x::xs,hs,K=>mL x fun cs=>bif Nat.beq cs.length es then xW ks i 0 cs [] fun cs a=>Ip ks es (i+1) xs (a++hs) fun r hs=>K (cs::r) hs else none
def cY1 (e:eQ) (h:aJ) (d:Nat) (j:aB Nat) (K:PV->aB R):aB R:=rR e d fun v=>match j with
 |none=>K v
 |some j=>match v with
  |.agg cs=>iX j cs fun cs=>match cs with
   |c::_=>K c
   |[]=>none
  |.ref k o=>hK h k fun ob=>match ob with
   |.box cs=>iX (o+j) cs fun cs=>match cs with
    |c::_=>K c
    |[]=>none
   |_=>none
  |_=>none
def dF (C:zE) (X:NX) (dr:Nat):jJ->eQ->aJ->Nat->(eQ->aJ->Nat->aB R)->aB R
 |.nil,e,h,n,K=>K e h n
 |.op d k xs kill cJ,e,h,n,K=>qI e xs fun as=>
  match k,as with
  |.append ty es _ _ false,[s,x]=>uC1 e h d ty es kill s x fun e h=>dF C X dr cJ e h n K
  |.slc es false true false,[.own k,.v (.int _ hi)]=>Sx e h d es kill k hi fun e h=>dF C X dr cJ e h n K
  |.callF f,as=>bif X.is f then bif Nat.ble 6 dr then bif X.xw f then inN (Nat.beq (f+6) dr) (X.run f as) (X.nw f) as e h n (d::kill) fun v e h n=>dF C X dr cJ ((d,v)::e) h n K else none
    else bif X.xw f&& !(Nat.beq dr 0)then none else kA1 (vB 4294967296 kill) (X.run f as) (X.nw f) as e h n (d::kill) fun v e h n=>dF C X dr cJ ((d,v)::e) h n K
   else Bf C f as h fun v=>iY e (d::kill) fun e=>dF C X dr cJ ((d,v)::e) h n K
  |.callV,.yld k::as=>bif Nat.beq dr 3||Nat.ble 5 dr then none else uE1 (vB 4294967296 kill) (X.yld k as) false (.yld k::as) e h n (d::kill) fun v e h n=>dF C X dr cJ ((d,v)::e) h n K
  |.callV,.fn f first cap::as=>bif X.is f then bif Nat.beq dr 3||(Nat.ble 5 dr||(X.xw f&& !(Nat.beq dr 0)))then none else kA1 (vB 4294967296 kill) (X.run f (first++as++cap)) (X.nw f) (first++as++cap) e h n (d::kill) fun v e h n=>dF C X dr cJ ((d,v)::e) h n K
   else Bf C f (first++as++cap) h fun v=>iY e (d::kill) fun e=>dF C X dr cJ ((d,v)::e) h n K
  |k,as=>opK C X k as h n fun v h n=>iY e (d::kill) fun e=>dF C X dr cJ ((d,v)::e) h n K
 |.sto k xs kill cJ,e,h,n,K=>qI e xs fun as=>fE k as h n fun _ h n=>iY e kill fun e=>dF C X dr cJ e h n K
 |.ifx d c w body x kill cJ,e,h,n,K=>rR e c fun a=>match a with
  |.v (.bool b)=>
   bP (bif w then Ms b (opsB C X body e h n x) (some false)else Ms b (some true) (opsB C X body e h n x))
    fun y=>iY e (d::cG body kill) fun e=>dF C X dr cJ ((d,.v (.bool y))::e) h n K
  |_=>none
 |.ifn d c w body x kill cJ,e,h,n,K=>rR e c fun a=>match a with
  |.v (.bool b)=>
   bif w then Ms b (dF C X dr body e h n fun e h n=>qI e [x] fun vs=>match vs with
     |[y]=>iY e (d::cG body kill) fun e=>dF C X dr cJ ((d,y)::e) h n K
     |_=>none) (iY e (d::cG body kill) fun e=>dF C X dr cJ ((d,.v (.bool false))::e) h n K)
   else Ms b (iY e (d::cG body kill) fun e=>dF C X dr cJ ((d,.v (.bool true))::e) h n K) (dF C X dr body e h n fun e h n=>qI e [x] fun vs=>match vs with
     |[y]=>iY e (d::cG body kill) fun e=>dF C X dr cJ ((d,y)::e) h n K
     |_=>none)
  |_=>none
 |.mkfl d ty zero xs kill cJ,e,h,n,K=>qI e xs fun as=>bif Nat.beq zero.length 1&&as.all kB1 then iY e (d::kill) fun e=>dF C X dr cJ ((d,.own n)::e) ((n,.fl as)::h) (n+1) K else none
 |.lax d es cJ,e,h,n,K=>rR e d fun v=>match v,es with
  |.v (.slice none 0 0),[some s]=>iY e [d] fun e=>dF C X dr cJ ((d,.is s [])::e) h n K
  |.agg cs,es=>Yn es cs fun cs=>iY e [d] fun e=>dF C X dr cJ ((d,.agg cs)::e) h n K
  |_,_=>none
 |.own d ty s g cJ,e,h,n,K=>rR e d fun v=>match v with
  |.v (.slice none 0 0)=>iY e [d] fun e=>dF C X dr cJ ((d,.own n)::e) ((n,oV ty s g)::h) (n+1) K
  |_=>none
 |.fz d j cJ,e,h,n,K=>rR e d fun v=>match j with
  |none=>match Ff v with
   |some (m,k)=>fzK e h d m k none fun e h=>dF C X dr cJ e h n K
   |none=>none
  |some j=>match v with
   |.agg cs=>iX j cs fun cs'=>match cs' with
    |c::_=>match Ff c with
     |some (m,k)=>fzK e h d m k (some j) fun e h=>dF C X dr cJ e h n K
     |none=>match c with
      |.is es rows=>qK cs j [.zs 5 es rows] fun cs=>iY e [d] fun e=>dF C X dr cJ ((d,.agg cs)::e) h n K
      |.zs dp es rows=>bif Nat.ble dp 5 then qK cs j [.zs 5 es rows] fun cs=>iY e [d] fun e=>dF C X dr cJ ((d,.agg cs)::e) h n K else none
      |_=>none
    |[]=>none
   |_=>none
 |.laxm d j cJ,e,h,n,K=>rR e d fun v=>match j,v with
  |none,.v (.map none)=>iY e [d] fun e=>dF C X dr cJ ((d,.zm [])::e) h n K
  |some j,.ref k _=>hK h k fun ob=>match ob with
   |.box cs=>iX j cs fun cs'=>match cs' with
    |.v (.map none)::_=>qK cs j [.zm []] fun cs=>gA h k (.box cs) fun h=>dF C X dr cJ e h n K
    |_=>none
   |_=>none
  |_,_=>none
 |.laxc d j s cJ,e,h,n,K=>rR e d fun v=>match v with
  |.ref k _=>hK h k fun ob=>match ob with
   |.box cs=>iX j cs fun cs'=>match cs' with
    |.v (.slice none 0 0)::_=>qK cs j [.is s []] fun cs=>gA h k (.box cs) fun h=>dF C X dr cJ e h n K
    |_=>none
   |_=>none
  |_=>none
 |.ownc d j ty s g cJ,e,h,n,K=>rR e d fun v=>match v with
  |.ref k _=>hK h k fun ob=>match ob with
   |.box cs=>iX j cs fun cs'=>match cs' with
    |.v (.slice none 0 0)::_=>qK cs j [.own n] fun cs=>gA h k (.box cs) fun h=>dF C X dr cJ e ((n,oV ty s g)::h) (n+1) K
    |_=>none
   |_=>none
  |_=>none
 |.opn d m x kill js cJ,e,h,n,K=>qI e [x] fun vs=>match vs with
  |[.el k i o]=>hK h k fun ob=>match ob with
   |.tr t rows hs=>match m with
    |none=>bP (lB rows i o) fun c=>Oq t.ks i o [c] js [.undef] hs h n fun cs hs h n=>match cs with
     |[v]=>gA h k (.tr t rows hs) fun h=>iY e (d::kill) fun e=>dF C X dr cJ ((d,v)::e) h n K
     |_=>none
    |some m=>bP (lZ rows i o m) fun cs0=>xV t.ks o cs0 fun cs=>Oq t.ks i o cs0 js cs hs h n fun cs hs h n=>gA h k (.tr t rows hs) fun h=>iY e (d::kill) fun e=>dF C X dr cJ ((d,.agg cs)::e) h n K
   |_=>none
  |_=>none
 |.bst d t len zero parts xs kill cJ,e,h,n,K=>qI e xs fun as=>match t with
  |.nd ty es ks=>bif Kr 0 parts&&(Nat.beq zero.length es&&(!(dY ty)&&Nat.beq parts.length len))then Ip ks es 0 as [] fun rows hs=>bif Nat.beq rows.length len then
    iY e (d::kill) fun e=>dF C X dr cJ ((d,.own n)::e) ((n,.tr t rows hs)::h) (n+1) K else none else none
 |.clr d es zero x y kill cJ,e,h,n,K=>qI e [x,y] fun vs=>match vs with
  |[.own k,.v (.int _ lo)]=>hK h k fun ob=>match ob with
   |.lst ty es' g rows=>bif Nat.beq es' es&&Nat.beq zero.length es then vW (zero.map .v) fun z=>bP (xY rows lo z) fun rows=>gA h k (.lst ty es' g rows) fun h=>iY e (d::kill) fun e=>dF C X dr cJ e h n K else none
   |_=>none
  |_=>none
 |.gc keep cJ,e,h,n,K=>Io e keep fun e=>Ou (mA 5) e [] fun l=>mN h 60 l [] fun p=>Vo h p fun h=>gcK (tL h) e h fun e h=>dF C X dr cJ e h n K
 |.up m cJ,e,h,n,K=>bif Nat.ble n m then dF C X dr cJ e h m K else none
 |.tre d j t cJ,e,h,n,K=>cY1 e h d j fun v=>match v with
  |.own k=>hK h k fun ob=>match ob with
   |.lst ty es _ rows=>match t with
    |.nd ty' es' ks=>bif Nat.beq ty ty'&&(Nat.beq es es'&& !(dY ty))then bif ks.all fun q=>vA q.2 then gA h k (.tr t rows []) fun h=>dF C X dr cJ e h n K else match rows with
     |[]=>gA h k (.tr t [] []) fun h=>dF C X dr cJ e h n K
     |_=>none
     else none
   |_=>none
  |_=>none
 where
 opsB (C:zE) (X:NX):jJ->eQ->aJ->Nat->PX->aB Bool
 |.nil,e,_,_,x=>qI e [x] fun vs=>match vs with
  |[.v (.bool b)]=>some b
  |_=>none
 |.op d k xs kill cJ,e,h,n,x=>qI e xs fun as=>
  bif Pa k then none else opK C X k as h n fun v h n=>iY e (d::kill) fun e=>opsB C X cJ ((d,v)::e) h n x
 |.ifx d c w body x' kill cJ,e,h,n,x=>rR e c fun a=>match a with
  |.v (.bool b)=>
   bP (bif w then Ms b (opsB C X body e h n x') (some false)else Ms b (some true) (opsB C X body e h n x'))
    fun y=>iY e (d::cG body kill) fun e=>opsB C X cJ ((d,.v (.bool y))::e) h n x
  |_=>none
 |_,_,_,_,_=>none
def qM (n:Nat):Nat->PV->Bool
 |0,_=>false
 |d+1,x=>match x with
  |.ref k _|.own k|.el k _ _|.map k|.yld k=>Nat.blt k n
  |.fn _ a b=>a.all (qM n d)&&b.all (qM n d)
  |.agg cs=>cs.all (qM n d)
  |.tup cs=>cs.all (qM n d)
  |_=>true
def Vp:eQ->Nat->(PV->aB R)->aB R->aB R
 |[],_,_,D=>D
 |(j,v)::r,i,K,D=>bif Nat.beq j i then K v else Vp r i K D
def Pb:eQ->aA Nat->Nat->(eQ->aB R)->aB R
 |_,[],_,K=>K []
 |e,i::is,n,K=>Vp e i (fun v=>bif qM n 4 v then Pb e is n fun r=>K ((i,v)::r)else none) (Pb e is n K)
def xZ (n:Nat):cS->Bool
 |.box cs=>cs.all (qM n 4)
 |.fl cs=>cs.all (qM n 4)
 |.loop _ e _ _ _ _ _=>e.all fun q=>qM n 4 q.2
 |.tr _ _ hs=>hs.all fun q=>qM n 4 q.2.2
 |_=>true
def Vq:aJ->aJ->Nat->(aJ->aB R)->aB R
 |[],_,_,K=>K []
 |(k,_)::r,h,n,K=>hK h k fun o=>bif xZ n o then Vq r h n fun r=>K ((k,o)::r)else none
def aQ {S E:Type} (body:S->aB (S⊕E)):Nat->S->aB E
 |0,_=>none
 |n+1,s=>(body s).bind fun r=>match r with
  |.inl s=>aQ body n s
  |.inr e=>some e
def cQ:Nat:=18446744073709551616
structure Mt where
 e:eQ
 h:aJ
def Fg (body:eQ->aJ->(Ex->eQ->aJ->aB R)->aB R) (a:eQ->aJ->(Mt->aB R)->aB R):Nat->Mt->(Ex->Mt->aB R)->aB R
 |0,_,_=>none
 |m+1,s,K=>body s.e s.h fun x e h=>a e h fun s=>match x with
  |.normal=>Fg body a m s K
  |.exit i=>K (.exit i) s
  |.ret=>K .ret s
def Vr:eQ->aA Nat->(eQ->aB R)->aB R
 |_,[],K=>K []
 |e,i::is,K=>rR e i fun v=>Vr e is fun r=>K ((i,v)::r)
def oW (keep:aA Nat) (h0:aJ) (n0:Nat) (e:eQ) (h:aJ) (K:Mt->aB R):aB R:=
 Pb e keep n0 fun e=>Vq h0 h n0 fun h=>K ⟨e,h⟩
def lk (x:Ex) (a b:aA Nat):aA Nat:=match x with
 |.normal=>a
 |_=>b
abbrev gJ (X:NX) (f:FuncId) (xs:aA PV) (hs:aJ) (m:Nat) (nw:Bool):aB (PV×aJ×Nat):=X.run f xs hs m (Fe hs nw m)
abbrev vD (X:NX) (k:Nat) (xs:aA PV) (hs:aJ) (m:Nat):aB (PV×aJ×Nat):=X.yld k xs hs m (Fe hs false m)
def eH:eQ->Nat->aB PV
 |[],_=>none
 |(j,v)::r,i=>if j=i then some v else eH r i
def aG:aJ->Nat->aB cS
 |[],_=>none
 |(j,v)::r,i=>if j=i then some v else aG r i
def yA:PV->aB Nat
 |.ref k _|.own k|.el k _ _|.map k=>some k
 |_=>none
def cZ1:PV->Bool
 |.ip _|.v _|.is _ _|.im _=>true
 |_=>false
def Sy (h:aJ) (x y:PV):Bool:=cZ1 x||cZ1 y||match yA x,yA y with
 |some k,some k'=> !Nat.beq k k'&&(aG h k).isSome&&(aG h k').isSome
 |_,_=>false
def Kt (h:aJ) (k:Nat):Bool:=match aG h k with
 |some (.box _)=>true
 |_=>false
def exB (h0:aJ) (e:eQ) (h:aJ) (ex:aA (Nat×Nat×Nat×Nat)):Bool:=ex.all fun p=>bif Nat.beq p.2.2.1 999999 then(match eH e p.2.2.2 with
 |some (.ref k _)=>Kt h0 k&&Kt h k
 |_=>false)else match eH e p.2.2.1,eH e p.2.2.2 with
 |some x,some y=>Sy h x y
 |_,_=>false
def iL (C:zE) (X:NX) {R:Type}:PC->eQ->aJ->Nat->(Ex->eQ->aJ->Nat->aB R)->aB R
 |.skip,e,h,n,K=>K .normal e h n
 |.reg ops,e,h,n,K=>dF C X 0 ops e h n (K .normal)
 |.regD dr ops _,e,h,n,K=>dF C X dr ops e h n (K .normal)
 |.dead _,_,_,_,_=>none
 |.regX dr ops _ ex,e,h,n,K=>dF C X dr ops e h n fun e h' n=>bif exB h e h' ex then K .normal e h' n else none
 |.seq a b,e,h,n,K=>iL C X a e h n (fun x e h n=>match x with|.normal=>iL C X b e h n K|.exit i=>K (.exit i) e h n|.ret=>K .ret e h n)
 |.cond c a b,e,h,n,K=>qI e [c] fun vs=>match vs with
  |[.v (.bool t)]=>Ms t (iL C X a e h n K) (iL C X b e h n K)
  |_=>none
 |.condJ keep c a b,e,h,n,K=>qI e [c] fun vs=>match vs with
  |[.v (.bool t)]=>bP (Ms t (iL C X a e h n fun x e' h' _=>oW keep h n e' h' fun s=>some (x,s)) (iL C X b e h n fun x e' h' _=>oW keep h n e' h' fun s=>some (x,s)))
    fun r=>K r.1 r.2.e r.2.h n
  |_=>none
 |.block id c,e,h,n,K=>iL C X c e h n (fun x e h n=>match x with|.exit i=>bif Nat.beq i id then K .normal e h n else K (.exit i) e h n|.normal=>K .normal e h n|.ret=>K .ret e h n)
 |.loop keep kx c,e,h,n,K=>oW keep h n e h fun s0=>
   bP (aQ (fun s:Mt=>iL C X c s.e s.h n fun x e' h' _=>oW (lk x keep kx) h n e' h' fun s'=>some (match x with|.normal=>.inl s'|x=>.inr (x,s'))) cQ s0)
    fun r=>K r.1 r.2.e r.2.h n
 |.condL c a b,e,h,n,K=>qI e [c] fun vs=>match vs with
  |[.v (.bool t)]=>match t with
   |true=>iL C X a e h n K
   |false=>iL C X b e h n K
  |_=>none
 |.loopU m keep c,e,h,n,K=>oW keep h n e h fun s0=>
   Fg (fun e h K=>iL C X c e h n fun x e h _=>K x e h) (fun e' h' K=>oW keep h n e' h' K) m s0 fun x s=>K x s.e s.h n
 |.rangeF N keep f ps a b,e,h,n,K=>qI e [f] fun vs=>match vs with
  |[.fn g first cap]=>bif X.is g then Vr e keep fun d=>
    inK (X.run g (first++[.yld n]++cap)) false (first++[.yld n]++cap) e ((n,.loop N d ps a b false none)::h) (n+1) [] fun _ e h m=>
     hK h n fun ob=>match ob with
     |.loop _ _ _ _ _ false fin=>Oz h n fun h=>match fin with
      |none=>K .normal e h m
      |some (.exit i)=>K (.exit i) e h m
      |some .ret=>K .ret e h m
      |some .normal=>none
     |_=>none
   else none
  |_=>none
 |.exit id,e,h,n,K=>K (.exit id) e h n
 |.ret,e,h,n,K=>K .ret e h n
end
end Go.P
namespace Go.P
open Go.Sim (AV AO Hp fQ upd St IC IX Ex gC CK)
def xQ1:PV->AV
 |.v x=>.v x
 |_=>.tup []
def eV:PV->AV
 |.v x=>.v x
 |.is _ []=>.v (.slice none 0 0)
 |.fn f [] []=>.fn (.func f) [] []
 |.agg cs=>.agg (cs.map xQ1)
 |_=>.tup []
def isV:PV->Bool
 |.v _=>true
 |_=>false
def okC:PV->Bool
 |.v _=>true
 |.is _ []=>true
 |.fn _ [] []=>true
 |.agg cs=>cs.all isV
 |_=>false
def eX:PX->IX
 |.t i=>.t i
 |.c x=>.c (eV x)
def oX (g:aB (Nat×Bool)):jJ->aA Sim.Op1
 |.nil=>[]
 |.op d k xs _ r=>⟨some d,k,xs.map eX,g⟩::oX g r
 |.sto k xs _ r=>⟨none,k,xs.map eX,g⟩::oX g r
 |.ifx d c w b x _ r=>oX (some (c,w)) b++⟨some d,.pick,if w then[.t c,eX x,.c (.v (.bool false))]else[.t c,.c (.v (.bool true)),eX x],g⟩::oX g r
 |.ifn d c w b x _ r=>oX (some (c,w)) b++⟨some d,.pick,if w then[.t c,eX x,.c (.v (.bool false))]else[.t c,.c (.v (.bool true)),eX x],g⟩::oX g r
 |.mkfl d ty zero xs _ r=>⟨some d,.buildSl ty 1 xs.length zero (List.range xs.length),xs.map eX,g⟩::oX g r
 |.lax _ _ r=>oX g r
 |.own _ _ _ _ r=>oX g r
 |.ownc _ _ _ _ _ r=>oX g r
 |.laxc _ _ _ r=>oX g r
 |.fz _ _ r=>oX g r
 |.laxm _ _ r=>oX g r
 |.opn d m x _ _ r=>⟨some d,(match m with|none=>.loadS|some m=>.loadA m),[eX x],g⟩::oX g r
 |.bst d t len zero parts xs _ r=>⟨some d,(match t with|.nd ty e _=>.buildSl ty e len zero parts),xs.map eX,g⟩::oX g r
 |.gc _ r=>oX g r
 |.clr d es zero x y _ r=>⟨some d,.slc es true false false,[eX x,eX y],g⟩::⟨none,.clear es zero,[.t d],g⟩::oX g r
 |.tre _ _ _ r=>oX g r
 |.up _ r=>oX g r
def sL:jJ->Bool
 |.nil=>true
 |.lax _ _ r=>sL r
 |.own _ _ _ _ r=>sL r
 |.ownc _ _ _ _ _ r=>sL r
 |.laxc _ _ _ r=>sL r
 |.fz _ _ r=>sL r
 |.laxm _ _ r=>sL r
 |.gc _ r=>sL r
 |.tre _ _ _ r=>sL r
 |.up _ r=>sL r
 |_=>false
def rK1:jJ->Bool
 |.nil=>true
 |_=>false
def mC:PC->IC
 |.skip=>.skip
 |.reg ops=>.reg (oX none ops)
 |.regD _ ops before=>.regD (oX none ops) before
 |.dead c=>c
 |.regX _ ops before _=>.regD (oX none ops) before
 |.seq a b=>match a with
  |.reg ops=>if sL ops&& !rK1 ops then mC b else .seq (.reg (oX none ops)) (mC b)
  |a=>match b with
   |.reg ops=>if sL ops&& !rK1 ops then mC a else .seq (mC a) (.reg (oX none ops))
   |b=>.seq (mC a) (mC b)
 |.cond c a b=>.cond (eX c) (mC a) (mC b)
 |.condJ _ c a b=>.cond (eX c) (mC a) (mC b)
 |.condL c a b=>.cond (eX c) (mC a) (mC b)
 |.block id c=>.block id (mC c)
 |.loop _ _ c=>.loop (mC c)
 |.loopU _ _ c=>.loop (mC c)
 |.rangeF _ _ f ps a b=>.rangeF (eX f) ps (mC a) (mC b)
 |.exit id=>.exit id
 |.ret=>.ret
end Go.P
namespace Go.P
open Go.Sim (AV AO Hp fQ upd St IC IX Ex gC CK Wf)
variable {i j:Nat}
inductive RC:Bool->PV->AV->Prop
 |v {p:Bool} (x:Value):RC p (.v x) (.v x)
 |is {p:Bool} {e:Nat} {rows:List (List PV)} {rows':List (List AV)} (hl:rows.length=rows'.length)
   (hr:∀(i:Nat) (r:List PV) (r':List AV),rows[i]? =some r->rows'[i]? =some r'->r.length=r'.length)
   (hc:∀(i:Nat) (r:List PV) (r':List AV) (j:Nat) (x:PV) (y:AV),rows[i]? =some r->rows'[i]? =some r'->r[j]? =some x->r'[j]? =some y->RC true x y):RC p (.is e rows) (.is e rows')
 |isn {p:Bool} {e:Nat}:RC p (.is e []) (.v (.slice none 0 0))
 |ip {p:Bool} {cs:List PV} {cs':List AV} (hl:cs.length=cs'.length) (hc:∀(j:Nat) (x:PV) (y:AV),cs[j]? =some x->cs'[j]? =some y->RC false x y):RC p (.ip cs) (.ip cs')
 |im {es:List (PV×PV)} {es':List (AV×AV)} (hl:es.length=es'.length)
   (hk:∀(j:Nat) (x:PV×PV) (y:AV×AV),es[j]? =some x->es'[j]? =some y->RC false x.1 y.1)
   (hv:∀(j:Nat) (x:PV×PV) (y:AV×AV),es[j]? =some x->es'[j]? =some y->RC false x.2 y.2):RC false (.im es) (.im es')
 |fn {f:FuncId} {a b:List PV} {a' b':List AV} (h1:a.length=a'.length) (h2:b.length=b'.length)
   (v1:∀(j:Nat) (x:PV) (y:AV),a[j]? =some x->a'[j]? =some y->RC false x y) (v2:∀(j:Nat) (x:PV) (y:AV),b[j]? =some x->b'[j]? =some y->RC false x y):RC false (.fn f a b) (.fn (.func f) a' b')
 |agg {cs:List PV} {cs':List AV} (hl:cs.length=cs'.length) (hc:∀(j:Nat) (x:PV) (y:AV),cs[j]? =some x->cs'[j]? =some y->RC false x y):RC false (.agg cs) (.agg cs')
 |tup {cs:List PV} {cs':List AV} (hl:cs.length=cs'.length) (hc:∀(j:Nat) (x:PV) (y:AV),cs[j]? =some x->cs'[j]? =some y->RC false x y):RC false (.tup cs) (.tup cs')
def RC.weak {p} {x} {y} (h:RC p x y):RC false x y:=by
 cases h with
 |v x=>exact .v x
 |is hl hr hc=>exact .is hl hr hc
 |isn=>exact .isn
 |ip hl hc=>exact .ip hl hc
 |im a b c=>exact .im a b c
 |fn a b c d=>exact .fn a b c d
 |agg a b=>exact .agg a b
 |tup a b=>exact .tup a b
def RC.plain {x} {y} (h:RC false x y) (hp:gZ x=true):RC true x y:=by
 cases h with
 |v x=>exact .v x
 |is hl hr hc=>exact .is hl hr hc
 |isn=>exact .isn
 |ip hl hc=>exact .ip hl hc
 |_=>simp[gZ]at hp
def LR (R:PV->AV->Prop) (xs:aA PV) (ys:aA AV):Prop:=xs.length=ys.length/\∀(j:Nat) (x:PV) (y:AV),xs[j]? =some x->ys[j]? =some y->R x y
section
variable {R:PV->AV->Prop}
def LR.nil:LR R [] []:=⟨rfl,fun j x y h=>by simp at h⟩
def LR.cons {x} {y} {xs} {ys} (h:R x y) (d:LR R xs ys):LR R (x::xs) (y::ys):=
 ⟨by simp[d.1],fun j a b c hb=>by
  cases j with
  |zero=>simp at c hb;subst c hb;exact h
  |succ j=>simp at c hb;exact d.2 j a b c hb⟩
def LR.head {x} {y} {xs} {ys} (h:LR R (x::xs) (y::ys)):R x y:=h.2 0 x y rfl rfl
def LR.tail {x} {y} {xs} {ys} (h:LR R (x::xs) (y::ys)):LR R xs ys:=
 ⟨by simpa using h.1,fun j a b c hb=>h.2 (j+1) a b (by simpa using c) (by simpa using hb)⟩
def LR.inv_nil {ys} (h:LR R [] ys):ys=[]:=by
 have:=h.1;cases ys with
 |nil=>rfl
 |cons a as=>simp at this
def LR.inv_cons {x} {xs} {ys} (h:LR R (x::xs) ys):∃y b,ys=y::b/\R x y/\LR R xs b:=by
 cases ys with
 |nil=>have:=h.1;simp at this
 |cons a as=>exact⟨a,as,rfl,h.head,h.tail⟩
def LR.append {xs xs'} {ys ys'} (h:LR R xs ys) (h':LR R xs' ys'):LR R (xs++xs') (ys++ys'):=by
 induction xs generalizing ys with
 |nil=>rw[h.inv_nil];exact h'
 |cons a as ih=>
  obtain⟨y,b,rfl,h1,h2⟩:=h.inv_cons;exact .cons h1 (ih h2)
def LR.take {xs} {ys} (h:LR R xs ys) (n:Nat):LR R (xs.take n) (ys.take n):=
 ⟨by simp[h.1],fun j x y a hy=>by
  rw[zR2]at a hy
  split at a
  rename_i b
  rw[yY2 b]at hy
  exact h.2 j x y a hy
  cases a⟩
def LR.drop {xs} {ys} (h:LR R xs ys) (n:Nat):LR R (xs.drop n) (ys.drop n):=
 ⟨by simp[h.1],fun j x y a hy=>by
  rw[aI3]at a hy
  exact h.2 _ x y a hy⟩
def LR.get {xs:aA PV} {ys:aA AV} (h:LR R xs ys) {x:PV} (b:xs[j]? =some x):∃y,ys[j]? =some y/\R x y:=by
 have a:j<ys.length:=by rw[<-h.1];exact(yT2.1 b).1
 exact⟨ys[j],by simp[a],h.2 j x _ b (by simp[a])⟩
def LR.mono {R'} {xs} {ys} (h:LR R xs ys) (c:∀x y,R x y->R' x y):LR R' xs ys:=⟨h.1,fun j x y a b=>c x y (h.2 j x y a b)⟩
def LR.set {xs} {ys} (h:LR R xs ys) {x} {y} (d:R x y) (n:Nat):LR R (xs.set n x) (ys.set n y):=
 ⟨by simp[h.1],fun j a b c hb=>by
  rw[zS2]at c hb
  split at c
  rename_i e;subst e
  rw[yY2 rfl]at hb
  split at c
  split at hb
  cases c;cases hb;exact d
  cases hb
  cases c
  rename_i e
  rw[zB2 e]at hb
  exact h.2 j a b c hb⟩
def LR.setL {xs xs'} {ys ys'} (h:LR R xs ys) (h':LR R xs' ys') (o:Nat):LR R (Sim.setL xs o xs') (Sim.setL ys o ys'):=by
 induction xs' generalizing xs ys ys' o with
 |nil=>rw[h'.inv_nil];exact h
 |cons a as ih=>
  obtain⟨y,b,rfl,h1,h2⟩:=h'.inv_cons;exact ih (h.set h1 o) h2 (o+1)
end
def RR (rows:aA (aA PV)) (rows':aA (aA AV)):Prop:=
 rows.length=rows'.length/\∀(i:Nat) (r:aA PV) (r':aA AV),rows[i]? =some r->rows'[i]? =some r'->LR (RC true) r r'
def RR.is {p} {e} {rows} {rows'} (h:RR rows rows'):RC p (.is e rows) (.is e rows'):=
 .is h.1 (fun i r r' a b=>(h.2 i r r' a b).1) (fun i r r' j x y a b c d=>(h.2 i r r' a b).2 j x y c d)
def RR.of_is {rows} {rows'} (hl:rows.length=rows'.length)
   (hr:∀(i:Nat) (r:aA PV) (r':aA AV),rows[i]? =some r->rows'[i]? =some r'->r.length=r'.length)
   (hc:∀(i:Nat) (r:aA PV) (r':aA AV) (j:Nat) (x:PV) (y:AV),rows[i]? =some r->rows'[i]? =some r'->r[j]? =some x->r'[j]? =some y->RC true x y):RR rows rows':=
 ⟨hl,fun i r r' a b=>⟨hr i r r' a b,fun j x y c d=>hc i r r' j x y a b c d⟩⟩
def RR.nil:RR [] []:=⟨rfl,fun i r r' h=>by simp at h⟩
def RR.cons {r} {r'} {rows} {rows'} (h:LR (RC true) r r') (d:RR rows rows'):RR (r::rows) (r'::rows'):=
 ⟨by simp[d.1],fun j a b c hb=>by
  cases j with
  |zero=>simp at c hb;subst c hb;exact h
  |succ j=>simp at c hb;exact d.2 j a b c hb⟩
def RR.get {rows:aA (aA PV)} {rows':aA (aA AV)} (h:RR rows rows') {r:aA PV} (hr:rows[i]? =some r):∃r',rows'[i]? =some r'/\LR (RC true) r r':=by
 have a:i<rows'.length:=by rw[<-h.1];exact(yT2.1 hr).1
 exact⟨rows'[i],by simp[a],h.2 i r _ hr (by simp[a])⟩
def RR.append {a b} {a' b'} (h:RR a a') (k:RR b b'):RR (a++b) (a'++b'):=
 ⟨by simp[h.1,k.1],fun i r r' h1 h2=>by
  rw[aV3]at h1 h2
  rw[<-h.1]at h2
  split at h1
  rename_i hi;rw[yY2 hi]at h2;exact h.2 i r r' h1 h2
  rename_i hi;rw[zB2 hi]at h2;exact k.2 _ r r' h1 h2⟩
def RR.take {a} {a'} (h:RR a a') (n:Nat):RR (a.take n) (a'.take n):=
 ⟨by simp[h.1],fun j x y b hy=>by
  rw[zR2]at b hy
  split at b
  rename_i c;rw[yY2 c]at hy;exact h.2 j x y b hy
  cases b⟩
def RR.drop {a} {a'} (h:RR a a') (n:Nat):RR (a.drop n) (a'.drop n):=
 ⟨by simp[h.1],fun j x y b hy=>by
  rw[aI3]at b hy
  exact h.2 _ x y b hy⟩
def RR.set {a} {a'} (h:RR a a') {x} {y} (c:LR (RC true) x y) (n:Nat):RR (a.set n x) (a'.set n y):=
 ⟨by simp[h.1],fun j p q b hb=>by
  rw[zS2]at b hb
  split at b
  rename_i e;subst e
  rw[yY2 rfl]at hb
  split at b
  split at hb
  cases b;cases hb;exact c
  cases hb
  cases b
  rename_i e
  rw[zB2 e]at hb
  exact h.2 j p q b hb⟩
theorem RR.replicate {r} {r'} (h:LR (RC true) r r') (n:Nat):RR (List.replicate n r) (List.replicate n r'):=
 ⟨by simp,fun i x y a hy=>by
  simp only[bW3]at a hy
  split at a
  grind
  cases a⟩
def ER (es:aA (PV×PV)) (es':aA (AV×AV)):Prop:=
 es.length=es'.length/\∀(j:Nat) (x:PV×PV) (y:AV×AV),es[j]? =some x->es'[j]? =some y->RC false x.1 y.1/\RC false x.2 y.2
def ER.im {es} {es'} (h:ER es es'):RC false (.im es) (.im es'):=.im h.1 (fun j x y a b=>(h.2 j x y a b).1) (fun j x y a b=>(h.2 j x y a b).2)
def RK (x:PV) (y:AV):Prop:=RC true x y\/∃cs cs',x=.agg cs/\y=.agg cs'/\LR (RC true) cs cs'
def RK.rc {x} {y} (h:RK x y):RC false x y:=by
 rcases h with h|⟨cs,cs',rfl,rfl,h⟩
 exact h.weak;exact .agg h.1 fun j x y a b=>(h.2 j x y a b).weak
def EM (es:aA (PV×PV)) (es':aA (AV×AV)):Prop:=
 es.length=es'.length/\∀(j:Nat) (x:PV×PV) (y:AV×AV),es[j]? =some x->es'[j]? =some y->RK x.1 y.1/\RK x.2 y.2
def EM.er {es} {es'} (h:EM es es'):ER es es':=⟨h.1,fun j x y a b=>⟨(h.2 j x y a b).1.rc,(h.2 j x y a b).2.rc⟩⟩
inductive Pl where
 |nil
 |atp (id ver e len:Nat)
structure Cx where
 f:Nat->Option Pl
 z:Nat->Option AO
 w:Nat->Option (Nat×Nat×Nat)
instance:CoeFun Cx fun _=>Nat->Option Pl:=⟨Cx.f⟩
def Cx.le (C C':Cx):Prop:=(∀k pl,C k=some pl->C' k=some pl)/\∀id o,C.z id=some o->C'.z id=some o
def Cx.le.refl (C:Cx):C.le C:=⟨fun _ _ h=>h,fun _ _ h=>h⟩
def Cx.le.trans {A B C:Cx} (h:A.le B) (k:B.le C):A.le C:=⟨fun a b c=>k.1 a b (h.1 a b c),fun a b c=>k.2 a b (h.2 a b c)⟩
def Nml (c:AV):Prop:=Sim.nameOK (fun _=>false) 1 c=true
def RC.nml {x} {y} (h:RC true x y):Nml y:=by cases h<;>rfl
def SL (n:Nat) (els:aA (aA AV)):Prop:=∀(i:Nat) (row:aA AV),n<=i->els[i]? =some row->∀c∈row,Nml c
def SL.exact {n} {els} (h:els.length<=n):SL n els:=fun i row hi hr=>by
 have:=(yT2.1 hr).1
 omega
def RZ (z:Nat->aB AO):Nat->PV->AV->Prop
 |0,x,y=>RC true x y
 |d+1,x,y=>RC true x y\/∃e rows id ver ty els,x=.is e rows/\y=.sl e id ver 0 rows.length none/\z id=some (.arr false ty e ver els)/\(rows.length<=els.length/\SL rows.length els)/\
   ∀(i:Nat) (r:aA PV) (r':aA AV),rows[i]? =some r->els[i]? =some r'->LR (RZ z d) r r'
def RZ.of {z} {d} {x} {y} (h:RC true x y):RZ z d x y:=by
 cases d with
 |zero=>exact h
 |succ d=>exact .inl h
def RZ.up1 {z}:∀{d} {x} {y},RZ z d x y->RZ z (d+1) x y
 |0,_,_,h=>.inl h
 |d+1,x,y,h=>by
  rcases h with h|⟨e,rows,id,ver,ty,els,h1,h2,h3,h4,h5⟩
  exact .inl h
  exact .inr ⟨e,rows,id,ver,ty,els,h1,h2,h3,h4,fun i r r' a b=>(h5 i r r' a b).mono fun x y h=>RZ.up1 h⟩
def RZ.up {z} {d d'} (hd:d<=d') {x} {y} (h:RZ z d x y):RZ z d' x y:=by
 induction hd with
 |refl=>exact h
 |step _ ih=>exact ih.up1
def RZ.mono {z z'} (c:∀id o,z id=some o->z' id=some o):∀{d} {x} {y},RZ z d x y->RZ z' d x y
 |0,_,_,h=>h
 |d+1,x,y,h=>by
  rcases h with h|⟨e,rows,id,ver,ty,els,h1,h2,h3,h4,h5⟩
  exact .inl h
  exact .inr ⟨e,rows,id,ver,ty,els,h1,h2,c _ _ h3,h4,fun i r r' a b=>(h5 i r r' a b).mono fun x y h=>RZ.mono c h⟩
def ZT (z:Nat->aB AO) (c e:Nat) (rows:aA (aA PV)) (y:AV):Prop:=(rows=[]/\y=.v (.slice none 0 0))\/
 ∃id ver ty els,y=.sl e id ver 0 rows.length none/\z id=some (.arr false ty e ver els)/\(rows.length<=els.length/\SL rows.length els)/\
  ∀(i:Nat) (r:aA PV) (r':aA AV),rows[i]? =some r->els[i]? =some r'->r.length=r'.length/\∀(j:Nat) (a:PV) (b:AV),r[j]? =some a->r'[j]? =some b->if j=c then RZ z 1 a b else RC true a b
def ZT.mono {z z'} (f:∀id o,z id=some o->z' id=some o) {c e} {rows} {y} (h:ZT z c e rows y):ZT z' c e rows y:=by
 rcases h with h|⟨id,ver,ty,els,h1,h2,h3,h4⟩
 exact .inl h;refine .inr ⟨id,ver,ty,els,h1,f _ _ h2,h3,fun i r r' a b=>⟨(h4 i r r' a b).1,fun j x y c1 c2=>?_⟩⟩;have:=(h4 i r r' a b).2 j x y c1 c2;split at this;rename_i d;rw[yY2 d];exact RZ.mono f this;rename_i d;rw[zB2 d];exact this
def ZT.rz {z} {c e} {rows} {y} (h:ZT z c e rows y):RZ z 2 (.is e rows) y:=by
 rcases h with⟨rfl,rfl⟩|⟨id,ver,ty,els,h1,h2,h3,h4⟩
 exact RZ.of .isn;refine .inr ⟨e,rows,id,ver,ty,els,rfl,h1,h2,h3,fun i r r' a b=>⟨(h4 i r r' a b).1,fun j x y c1 c2=>?_⟩⟩;have:=(h4 i r r' a b).2 j x y c1 c2;split at this;exact this;exact RZ.of this
def ZC (z:Nat->aB AO) (x:PV) (y:AV):Prop:=RC true x y\/∃d e r,x=.zs d e r/\RZ z d (.is e r) y
def ZC.mono {z z'} (a:∀id o,z id=some o->z' id=some o) {x} {y} (h:ZC z x y):ZC z' x y:=by
 rcases h with h|⟨d,e,r,h1,h2⟩
 exact .inl h;exact .inr ⟨d,e,r,h1,RZ.mono a h2⟩
def Iq (z:Nat->aB AO) (d:Nat) (rows:aA (aA PV)) (rows':aA (aA AV)):Prop:=
 rows.length=rows'.length/\∀(i:Nat) (r:aA PV) (r':aA AV),rows[i]? =some r->rows'[i]? =some r'->LR (RZ z d) r r'
def RR.tz {z} {d} {rows} {rows'} (h:RR rows rows'):Iq z d rows rows':=⟨h.1,fun i r r' a b=>(h.2 i r r' a b).mono fun _ _ h=>RZ.of h⟩
def Iq.mono {z z'} (c:∀id o,z id=some o->z' id=some o) {d} {rows} {rows'} (h:Iq z d rows rows'):Iq z' d rows rows':=⟨h.1,fun i r r' a b=>(h.2 i r r' a b).mono fun _ _ h=>RZ.mono c h⟩
def Iq.up {z} {d d'} (hd:d<=d') {rows} {rows'} (h:Iq z d rows rows'):Iq z d' rows rows':=⟨h.1,fun i r r' a b=>(h.2 i r r' a b).mono fun _ _ h=>RZ.up hd h⟩
def Iq.nil {z} {d}:Iq z d [] []:=⟨rfl,fun i r r' h=>by simp at h⟩
def Iq.append {z} {d} {a b} {a' b'} (h:Iq z d a a') (k:Iq z d b b'):Iq z d (a++b) (a'++b'):=
 ⟨by simp[h.1,k.1],fun i r r' h1 h2=>by
  rw[aV3]at h1 h2
  rw[<-h.1]at h2
  split at h1
  rename_i hi;rw[yY2 hi]at h2;exact h.2 i r r' h1 h2
  rename_i hi;rw[zB2 hi]at h2;exact k.2 _ r r' h1 h2⟩
def LS.set {rows:aA (aA PV)} {els:aA (aA AV)} (h:rows.length<=els.length/\SL rows.length els) {i:Nat} {x row:aA PV} {r:aA AV} (hi:rows[i]? =some row):(rows.set i x).length<=(els.set i r).length/\SL (rows.set i x).length (els.set i r):=by
 have b:=(yT2.1 hi).1;rw[bX3,bX3];refine⟨h.1,fun j row a hr=>?_⟩;rw[zI2 (by omega)]at hr;exact h.2 j row a hr
def SL.cut {rows} {els} (hr:RR rows (els.take rows.length)) (h:SL rows.length els) (n:Nat):SL n els:=fun i row _ a c hc=>by
 by_cases hi:i<rows.length
 have h2:(els.take rows.length)[i]? =some row:=by rw[zR2,yY2 hi];exact a
 obtain⟨j,d⟩:=zL2.1 hc
 have hl:=hr.2 i rows[i] row (by simp) h2
 have b:j<(rows[i]).length:=by rw[hl.1];exact(yT2.1 d).1
 exact(hl.2 j _ c (zY2 b) d).nml
 exact h i row (by omega) a c hc
def eL (L:Nat->aB AO) (w:Nat->aB (Nat×Nat×Nat)) (lim nS:Nat):Nat->Nat×Nat×Nat->TD->PV->AV->Prop
 |0,_,_,_,_=>False
 |d+1,sl,.nd ty e ks,x,y=>(vA (.nd ty e ks)=true/\RC true x y)\/∃rows,x=.is e rows/\((rows=[]/\y=.v (.slice none 0 0))\/
   ∃id ver els,y=.sl e id ver 0 rows.length none/\w id=some sl/\lim<=id/\id<nS/\dY (Vl ty)=false/\L id=some (.arr false (Vl ty) e ver els)/\(rows.length<=els.length/\SL rows.length els)/\
    ∀(i:Nat) (r:aA PV) (r':aA AV),rows[i]? =some r->els[i]? =some r'->r.length=r'.length/\∀(j:Nat) (a:PV) (b:AV),r[j]? =some a->r'[j]? =some b->match eZ ks j with
     |none=>RC true a b
     |some t=>eL L w lim nS d (id,i,j) t a b)
def Bw (hs:aA (Nat×Nat×PV)) (i j:Nat):Prop:=∃x,(j,i,x)∈hs
inductive RV (C:Cx):PV->AV->Prop
 |cl {x:PV} {y:AV} (h:RC false x y):RV C x y
 |undef {y:AV}:RV C .undef y
 |ref {k o id ver e len:Nat} (h:C k=some (.atp id ver e len)):RV C (.ref k o) (.ptr id ver 0 o)
 |own {k id ver e len:Nat} (h:C k=some (.atp id ver e len)):RV C (.own k) (.sl e id ver 0 len none)
 |ownn {k:Nat} {y:AV} (h:C k=some .nil) (hy:y=.v (.slice none 0 0)):RV C (.own k) y
 |el {k i o id ver e len:Nat} (h:C k=some (.atp id ver e len)):RV C (.el k i o) (.ptr id ver i o)
 |map {k id ver e len:Nat} (h:C k=some (.atp id ver e len)):RV C (.map k) (.map id)
 |fn {f:FuncId} {a b:List PV} {a' b':List AV} (h1:a.length=a'.length) (h2:b.length=b'.length)
   (v1:∀(j:Nat) (x:PV) (y:AV),a[j]? =some x->a'[j]? =some y->RV C x y) (v2:∀(j:Nat) (x:PV) (y:AV),b[j]? =some x->b'[j]? =some y->RV C x y):RV C (.fn f a b) (.fn (.func f) a' b')
 |yld {k id ver e len:Nat} (h:C k=some (.atp id ver e len)):RV C (.yld k) (.fn (.yield id) [] [])
 |agg {cs:List PV} {cs':List AV} (hl:cs.length=cs'.length) (hc:∀(j:Nat) (x:PV) (y:AV),cs[j]? =some x->cs'[j]? =some y->RV C x y):RV C (.agg cs) (.agg cs')
 |tup {cs:List PV} {cs':List AV} (hl:cs.length=cs'.length) (hc:∀(j:Nat) (x:PV) (y:AV),cs[j]? =some x->cs'[j]? =some y->RV C x y):RV C (.tup cs) (.tup cs')
 |zs {d e:Nat} {rows:List (List PV)} {y:AV} (h:RZ C.z d (.is e rows) y):RV C (.zs d e rows) y
 |zm {es:List (PV×PV)} {id:Nat} {es':List (AV×AV)} (h:C.z id=some (.map es')) (he:EM es es'):RV C (.zm es) (.map id)
 |zm0:RV C (.zm []) (.v (.map none))
 |zp {cs:List PV} {y:AV} (h:(∃cs',y=.ip cs'/\LR (RC true) cs cs')\/∃id ver i o ty e els row,y=.ptr id ver i o/\C.z id=some (.arr false ty e ver els)/\els[i]? =some row/\o<=row.length/\LR (ZC C.z) cs (row.drop o)):RV C (.zp cs) y
 |zt {c e:Nat} {rows:List (List PV)} {y:AV} (h:ZT C.z c e rows y):RV C (.zt c e rows) y
def RV.zpm {C C'} (d:∀id o,C.z id=some o->C'.z id=some o) {cs} {y} (h:RV C (.zp cs) y):RV C' (.zp cs) y:=by
 cases h with
 |cl h=>cases h
 |zp h=>exact .zp (h.imp id fun⟨id,ver,i,o,ty,e,els,row,a,b,c⟩=>⟨id,ver,i,o,ty,e,els,row,a,d _ _ b,c.1,c.2.1,c.2.2.mono fun _ _ h=>h.mono d⟩)
def RV.mono {C C'} (a:C.le C') {x} {y} (h:RV C x y):RV C' x y:=by
 induction h with
 |cl h=>exact .cl h
 |undef=>exact .undef
 |ref h=>exact .ref (a.1 _ _ h)
 |own h=>exact .own (a.1 _ _ h)
 |ownn h hy=>exact .ownn (a.1 _ _ h) hy
 |el h=>exact .el (a.1 _ _ h)
 |map h=>exact .map (a.1 _ _ h)
 |yld h=>exact .yld (a.1 _ _ h)
 |fn h1 h2 v1 v2 i1 i2=>exact .fn h1 h2 i1 i2
 |agg hl hc ih=>exact .agg hl ih
 |tup hl hc ih=>exact .tup hl ih
 |zs h=>exact .zs (RZ.mono a.2 h)
 |zm h he=>exact .zm (a.2 _ _ h) he
 |zm0=>exact .zm0
 |zp h=>exact RV.zpm a.2 (.zp h)
 |zt h=>exact .zt (h.mono a.2)
def dQ (C:Cx) (e:eQ) (t:aA AV):Prop:=∀i v,eH e i=some v->∃y,t[i]? =some y/\RV C v y
def StR:Bool->aB Ex->LoopState->aB IC->Prop
 |false,none,st,pend=>st=.ready/\pend=none
 |true,none,st,pend=>st=.busy
 |false,some (.exit i),st,pend=>st=.done/\pend=some (.exit i)
 |false,some .ret,st,pend=>st=.done/\pend=some .ret
 |_,_,_,_=>False
def TC (C:Cx) (L:Nat->aB AO) (lim nS d id:Nat) (ks:aA (Nat×TD)) (hs:aA (Nat×Nat×PV)) (i j:Nat) (a:PV) (b:AV):Prop:=match eZ ks j with
 |none=>RC true a b
 |some t=>(Bw hs i j/\∀x,(j,i,x)∈hs->RV C x b)\/(¬Bw hs i j/\eL L C.w lim nS d (id,i,j) t a b)
def fI (C:Cx) (L:Nat->aB AO) (lim nS:Nat):cS->Pl->Prop
 |.box cells,.atp id ver _ _=>lim<=id/\id<nS/\∃ty esz row,L id=some (.arr true ty esz ver [row])/\LR (RV C) cells row
 |.lst _ e _ rows,.nil=>rows=[]
 |.lst ty e g rows,.atp id ver e' len=>lim<=id/\id<nS/\e'=e/\len=rows.length/\∃els,L id=some (.arr false (zD ty) e ver els)/\RR rows (els.take rows.length)/\(rows.length<=els.length/\SL rows.length els)/\(g=false->els.length=rows.length)
 |.lz _ _ _ rows,.nil=>rows=[]
 |.lz ty e dp rows,.atp id ver e' len=>lim<=id/\id<nS/\e'=e/\len=rows.length/\dY ty=false/\∃els,L id=some (.arr false ty e ver els)/\Iq C.z dp rows els
 |.mp es,.atp id _ _ _=>lim<=id/\id<nS/\∃es',L id=some (.map es')/\EM es es'
 |.tr _ rows hs,.nil=>rows=[]/\hs=[]
 |.tr (.nd ty e ks) rows hs,.atp id ver e' len=>lim<=id/\id<nS/\e'=e/\len=rows.length/\dY ty=false/\∃els d,L id=some (.arr false ty e ver els)/\(rows.length<=els.length/\SL rows.length els)/\
   ∀(i:Nat) (r:aA PV) (r':aA AV),rows[i]? =some r->els[i]? =some r'->r.length=r'.length/\∀(j:Nat) (a:PV) (b:AV),r[j]? =some a->r'[j]? =some b->TC C L lim nS d id ks hs i j a b
 |.fl fs,.atp id ver e len=>lim<=id/\id<nS/\e=1/\len=fs.length/\∃ty els,L id=some (.arr false ty 1 ver els)/\els.length=fs.length/\∀(i:Nat) (f:PV) (row:aA AV),fs[i]? =some f->els[i]? =some row->LR (RV C) [f] row
 |.loop N e ps a b busy fin,.atp id _ _ _=>lim<=id/\id<nS/\∃st pend tmps,L id=some (.loop st pend tmps ps (mC a) (mC b))/\tmps.length=N/\dQ C e tmps/\StR busy fin st pend
 |_,_=>False
def nbO:AO->Bool
 |.arr bx _ _ _ _=> !bx
 |.map _=>true
 |_=>false
structure HR (C:Cx) (h:aJ) (L:Nat->Option AO) (lim nS:Nat):Prop where
 ob:∀k po,aG h k=some po->∃pl,C k=some pl/\fI C L lim nS po pl
 inj:∀k k' id v e l v' e' l',aG h k≠none->aG h k'≠none->C k=some (.atp id v e l)->C k'=some (.atp id v' e' l')->k=k'
 zr:∀id o,C.z id=some o->L id=some o/\id<nS/\(∀k v e l,aG h k≠none->C k≠some (.atp id v e l))/\nbO o=true
 wn:∀k id v e l,aG h k≠none->C k=some (.atp id v e l)->C.w id=none
 wb:∀id sl,C.w id=some sl->id<nS/\sl.1<nS
 wz:∀id o,C.z id=some o->C.w id=none
def Sz (C:Cx) (h:aJ) (id:Nat):Prop:=(∃k v e l,aG h k≠none/\C k=some (.atp id v e l))\/C.w id≠none
def fX:aA fQ->aA fQ->Prop
 |[],[]=>True
 |.mark::a,.mark::b=>fX a b
 |.ob i _::a,.ob j _::b=>i=j/\fX a b
 |_,_=>False
def Sk (h h':aA fQ) (n:Nat):Prop:=∃pre r,h'=pre++r/\fX r h/\∀e∈pre,∃i o,e=.ob i o/\n<=i
def fX.refl:∀h,fX h h
 |[]=>trivial
 |.mark::a=>fX.refl a
 |.ob _ _::a=>⟨rfl,fX.refl a⟩
def fX.trans:∀{a b c},fX a b->fX b c->fX a c
 |[],[],[],_,_=>trivial
 |.mark::a,.mark::b,.mark::c,h,k=>fX.trans (a:=a) h k
 |.ob _ _::a,.ob _ _::b,.ob _ _::c,h,k=>⟨h.1.trans k.1,fX.trans h.2 k.2⟩
def fX.upd:∀h id o,fX (upd h id o) h
 |[],_,_=>trivial
 |.mark::a,id,o=>fX.upd a id o
 |.ob i o'::a,id,o=>by
  simp only[Sim.upd]
  split
  exact⟨rfl,.refl a⟩
  exact⟨rfl,fX.upd a id o⟩
def fX.split:∀{x pre r},fX x (pre++r)->∃p q,x=p++q/\fX p pre/\fX q r
 |x,[],r,h=>⟨[],x,rfl,trivial,h⟩
 |.mark::x,.mark::pre,r,h=>by
  obtain⟨p,q,rfl,h1,h2⟩:=fX.split (x:=x) (pre:=pre) (r:=r) h
  exact⟨.mark::p,q,rfl,h1,h2⟩
 |.ob i o::x,.ob j o'::pre,r,h=>by
  obtain⟨p,q,rfl,h1,h2⟩:=fX.split (x:=x) (pre:=pre) (r:=r) h.2
  exact⟨.ob i o::p,q,rfl,⟨h.1,h1⟩,h2⟩
 |[],.mark::_,_,h=>h.elim
 |[],.ob _ _::_,_,h=>h.elim
 |.mark::_,.ob _ _::_,_,h=>h.elim
 |.ob _ _::_,.mark::_,_,h=>h.elim
def fX.obs {n}:∀{p pre},fX p pre->(∀e∈pre,∃i o,e=.ob i o/\n<=i)->∀e∈p,∃i o,e=.ob i o/\n<=i
 |[],[],_,_,e,he=>by simp at he
 |.mark::p,.mark::pre,h,hp,e,he=>by
  obtain⟨i,o,k,_⟩:=hp .mark (by simp)
  cases k
 |.ob i o::p,.ob j o'::pre,h,hp,e,he=>by
  rcases zF2.1 he with rfl|he
  obtain⟨b,a,k,hk⟩:=hp (.ob j o') (by simp)
  cases k
  exact⟨i,o,rfl,by rw[h.1];exact hk⟩
  exact fX.obs h.2 (fun e he=>hp e (by simp[he])) e he
def Sk.refl (h:aA fQ) (n:Nat):Sk h h n:=⟨[],h,rfl,.refl h,fun e he=>by simp at he⟩
theorem Sk.trans {a b c} {n m} (h:Sk a b n) (k:Sk b c m) (hn:n<=m):Sk a c n:=by
 obtain⟨p,r,rfl,h1,h2⟩:=h;obtain⟨q,r',rfl,f,g⟩:=k;obtain⟨x,y,rfl,d,e2⟩:=f.split;refine⟨q++x,y,by simp,e2.trans h1,fun e he=>?_⟩;rcases aG3.1 he with he|he
 grind
 exact d.obs h2 e he
def Sk.upd (h:aA fQ) (id:Nat) (o:AO) (n:Nat):Sk h (upd h id o) n:=⟨[],_,rfl,.upd h id o,fun e he=>by simp at he⟩
def Sk.new (h:aA fQ) (o:AO) (n:Nat):Sk h (.ob n o::h) n:=⟨[.ob n o],h,rfl,.refl h,fun e he=>by simp at he;exact⟨n,o,he,yX2 _⟩⟩
def Fh {n}:∀{pre r} {id},(∀e∈pre,∃i o,e=.ob i o/\n<=i)->id<n->Sim.look (pre++r) id=Sim.look r id
 |[],r,id,_,_=>rfl
 |e::pre,r,id,h,hid=>by
  obtain⟨i,o,rfl,hi⟩:=h e (by simp)
  simp only[bF3,Sim.look]
  rw[zB2 (by omega)]
  exact Fh (fun e he=>h e (by simp[he])) hid
def Vt {n}:∀{pre r},(∀e∈pre,∃i o,e=.ob i o/\n<=i)->∃a,Sim.popMark (pre++.mark::r)=a++r/\∀e∈a,∃i o,e=.ob i o/\n<=i
 |[],r,_=>⟨[],rfl,fun e he=>by simp at he⟩
 |e::pre,r,h=>by
  obtain⟨i,o,rfl,hi⟩:=h e (by simp)
  obtain⟨a,h1,h2⟩:=Vt (r:=r) (fun e he=>h e (aC3 _ he))
  have keep:∃b,fQ.ob i o::Sim.popMark (pre++.mark::r)=b++r/\∀e∈b,∃i o,e=.ob i o/\n<=i:=
   ⟨.ob i o::a,by rw[h1];rfl,fun e he=>by
    rcases zF2.1 he with rfl|he
    exact⟨i,o,rfl,hi⟩
    exact h2 e he⟩
  simp only[bF3,Sim.popMark]
  split
  exact⟨a,h1,h2⟩
  exact keep
def Sk.pop {h h'} {n} (hs:Sk (.mark::h) h' n):Sk h (Sim.popMark h') n/\∀id,id<n->Sim.look (Sim.popMark h') id=Sim.look h' id:=by
 obtain⟨pre,r,rfl,h1,h2⟩:=hs
 match r,h1 with
 |.mark::r,h1=>
  obtain⟨b,d,c⟩:=Vt (r:=r) h2;rw[d];refine⟨⟨b,r,rfl,h1,c⟩,fun id a=>?_⟩;rw[Fh c a,Fh h2 a];rfl
end Go.P
namespace Go.P
open Go.Sim (AV AO Hp fQ upd St IC IX Ex gC CK Wf)
section
variable {R:Type}
def Ir (x:Value) (K:Value->aB R):Su x K=K x:=by cases x<;>rfl
def dA1 (x:PV) (K:PV->aB R):fPV x K=K x:=by
 cases x<;>simp[fPV,Ir]
def rS:∀(xs:aA PV) (K:aA PV->aB R),vW xs K=K xs
 |[],K=>rfl
 |x::xs,K=>by simp[vW,dA1,rS xs]
def rM1:∀(xs:aA PV) (K:aA PV->aB R),fV.fT xs K=K xs
 |[],K=>rfl
 |x::xs,K=>by
  have ih:=fun K=>rM1 xs (K:aA PV->aB R)
  cases x<;>simp[fV.fT,dA1,rS,ih]
def Pc (x:PV) (K:PV->aB R):fV x K=K x:=by
 cases x<;>simp[fV,Ir,rS,rM1]
def aW {a b}:Nat.beq a b=decide (a=b):=by
 rw[Bool.eq_iff_iff];simp[Nat.beq_eq]
def iO:∀(e:eQ) (i:Nat) (K:PV->aB R),rR e i K=(eH e i).bind K
 |[],_,_=>rfl
 |(j,v)::r,i,K=>by
  simp only[rR,eH,aW]
  by_cases h:j=i<;>simp[h,iO r i K]
def gN:∀i js,vB i js=js.contains i
 |_,[]=>rfl
 |i,j::js=>by
  simp only[vB,aW,List.contains_cons,gN i js]
  by_cases h:i=j<;>simp[h]
def edel:eQ->aA Nat->eQ
 |[],_=>[]
 |(j,v)::r,is=>if j∈is then edel r is else(j,v)::edel r is
def eI:∀(e:eQ) (is:aA Nat) (K:eQ->aB R),iY e is K=K (edel e is)
 |[],_,_=>rfl
 |(j,v)::r,is,K=>by
  simp only[iY,gN,edel]
  by_cases h:j∈is
  simp[h,eI r is K]
  simp[h,eI r is]
def zW:∀e is i,eH (edel e is) i=if i∈is then none else eH e i
 |[],is,i=>by simp[edel,eH]
 |(j,v)::r,is,i=>by
  have ih:=zW r is i
  simp only[edel]
  by_cases h:j∈is
  rw[yY2 h,ih]
  by_cases h2:j=i
  subst h2;simp[h]
  simp[eH,h2]
  rw[zB2 h]
  by_cases h2:j=i
  subst h2;simp[eH,h]
  simp only[eH,zB2 h2,ih]
def evs (e:eQ):aA PX->aB (aA PV)
 |[]=>some []
 |.t i::xs=>(eH e i).bind fun v=>(evs e xs).bind fun vs=>some (v::vs)
 |.c x::xs=>(evs e xs).bind fun vs=>some (x::vs)
def jN (e:eQ):∀(xs:aA PX) (K:aA PV->aB R),qI e xs K=(evs e xs).bind K
 |[],K=>rfl
 |.t i::xs,K=>by
  simp only[qI,iO,evs,cY3]
  congr 1
  funext v
  rw[jN e xs]
  simp[cY3]
 |.c x::xs,K=>by
  simp only[qI,evs,cY3]
  rw[jN e xs]
  simp[cY3]
def oY:∀(n:Nat) (l:aA PV) (K:aA PV->aB R) (r:R),qJ n l K=some r->n<=l.length/\K (l.take n)=some r
 |0,l,K,r,h=>⟨aB3 _,by simpa[qJ]using h⟩
 |n+1,[],K,r,h=>by simp[qJ]at h
 |n+1,a::as,K,r,h=>by
  simp only[qJ]at h
  obtain⟨h1,h2⟩:=oY n as _ r h
  exact⟨by simp;omega,by simpa using h2⟩
def dZ:∀(n:Nat) (l:aA PV) (K:aA PV->aB R) (r:R),iX n l K=some r->n<=l.length/\K (l.drop n)=some r
 |0,l,K,r,h=>⟨aB3 _,by simpa[iX]using h⟩
 |n+1,[],K,r,h=>by simp[iX]at h
 |n+1,a::as,K,r,h=>by
  simp only[iX]at h
  obtain⟨h1,h2⟩:=dZ n as _ r h
  exact⟨by simp;omega,by simpa using h2⟩
def qN {α} (a:α):∀cs as n,Sim.setL (a::as) (n+1) cs=a::Sim.setL as n cs
 |[],as,n=>rfl
 |c::cs,as,n=>by simp only[Sim.setL,List.set_cons_succ];exact qN a cs _ _
def jC:∀(l:aA PV) (o:Nat) (cs:aA PV) (K:aA PV->aB R) (r:R),qK l o cs K=some r->o+cs.length<=l.length/\K (Sim.setL l o cs)=some r
 |l,0,[],K,r,h=>⟨by simp,by simpa[qK,Sim.setL]using h⟩
 |[],0,c::cs,K,r,h=>by simp[qK]at h
 |[],n+1,cs,K,r,h=>by simp[qK]at h
 |a::as,0,c::cs,K,r,h=>by
  simp only[qK]at h
  obtain⟨h1,h2⟩:=jC as 0 cs _ r h
  refine⟨by simp;omega,?_⟩
  simp only[Sim.setL,List.set_cons_zero]
  rw[qN]
  exact h2
 |a::as,n+1,cs,K,r,h=>by
  simp only[qK]at h
  obtain⟨h1,h2⟩:=jC as n cs _ r h
  exact⟨by simp;omega,by rw[qN];exact h2⟩
def gH:∀(h:aJ) (k:Nat) (K:cS->aB R),hK h k K=(aG h k).bind K
 |[],_,_=>rfl
 |(j,v)::r,i,K=>by
  simp only[hK,aG,aW]
  by_cases h:j=i<;>simp[h,gH r i K]
def cC:aJ->Nat->cS->aJ
 |[],_,_=>[]
 |(j,v)::r,i,o=>if j=i then(j,o)::r else(j,v)::cC r i o
def dB:∀(h:aJ) (k:Nat) (o:cS) (K:aJ->aB R) (r:R),gA h k o K=some r->K (cC h k o)=some r
 |[],_,_,_,_,h=>by simp[gA]at h
 |(j,v)::t,i,o,K,r,h=>by
  simp only[gA,aW]at h
  by_cases e:j=i
  simp only[e,aS3,zE2]at h
  simp only[cC,e,zT2];exact h
  simp only[e,bM3,zP2]at h
  simp only[cC,zB2 e]
  exact dB t i o _ r h
def dI:∀h k o j,aG (cC h k o) j=if j=k/\(aG h k).isSome then some o else aG h j
 |[],k,o,j=>by simp[cC,aG]
 |(i,v)::r,k,o,j=>by
  have ih:=dI r k o j
  by_cases h1:i=k
  subst h1
  simp only[cC,zT2,aG]
  by_cases h2:i=j
  subst h2;simp
  have a:¬j=i:=fun e=>h2 e.symm
  simp[h2,a]
  simp only[cC,zB2 h1,aG]
  by_cases h2:i=j
  subst h2;simp[h1]
  simp only[zB2 h2]
  exact ih
def fY:PV->aB (aA PV)
 |.agg cs=>some cs
 |.tup _=>none
 |.undef=>none
 |x=>some [x]
def lR (x:PV) (K:aA PV->aB R):mL x K=(fY x).bind K:=by cases x<;>rfl
def oZ {C} {x} {y} {cs} (h:RV C x y) (hc:fY x=some cs):∃cs',y.cells=some cs'/\LR (RV C) cs cs':=by
 have one:∀{z} {w},RV C z w->(∀l,w≠.agg l)->(∀l,w≠.tup l)->cs=[z]->∃cs',w.cells=some cs'/\LR (RV C) cs cs':=by
  intro z w f h1 h2 e;subst e;refine⟨[w],?_,.cons f .nil⟩;cases w<;>simp_all[AV.cells]
 cases h with
 |cl h=>
  cases h with
  |agg hl hc'=>simp[fY]at hc;subst hc;exact⟨_,rfl,hl,fun j x y a b=>.cl (hc' j x y a b)⟩
  |tup hl hc'=>simp[fY]at hc
  |v x=>exact one (.cl (.v x)) (by intro l e;cases e) (by intro l e;cases e) (by simpa[fY]using hc.symm)
  |is a b c=>exact one (.cl (.is a b c)) (by intro l e;cases e) (by intro l e;cases e) (by simpa[fY]using hc.symm)
  |isn=>exact one (.cl .isn) (by intro l e;cases e) (by intro l e;cases e) (by simpa[fY]using hc.symm)
  |ip a b=>exact one (.cl (.ip a b)) (by intro l e;cases e) (by intro l e;cases e) (by simpa[fY]using hc.symm)
  |im a b c=>exact one (.cl (.im a b c)) (by intro l e;cases e) (by intro l e;cases e) (by simpa[fY]using hc.symm)
  |fn a b c d=>exact one (.cl (.fn a b c d)) (by intro l e;cases e) (by intro l e;cases e) (by simpa[fY]using hc.symm)
 |undef=>simp[fY]at hc
 |agg hl hc'=>simp[fY]at hc;subst hc;exact⟨_,rfl,hl,hc'⟩
 |tup hl hc'=>simp[fY]at hc
 |ref h=>exact one (.ref h) (by intro l e;cases e) (by intro l e;cases e) (by simpa[fY]using hc.symm)
 |own h=>exact one (.own h) (by intro l e;cases e) (by intro l e;cases e) (by simpa[fY]using hc.symm)
 |ownn h hy=>subst hy;exact one (.ownn h rfl) (by intro l e;cases e) (by intro l e;cases e) (by simpa[fY]using hc.symm)
 |el h=>exact one (.el h) (by intro l e;cases e) (by intro l e;cases e) (by simpa[fY]using hc.symm)
 |map h=>exact one (.map h) (by intro l e;cases e) (by intro l e;cases e) (by simpa[fY]using hc.symm)
 |yld h=>exact one (.yld h) (by intro l e;cases e) (by intro l e;cases e) (by simpa[fY]using hc.symm)
 |fn a b c d=>exact one (.fn a b c d) (by intro l e;cases e) (by intro l e;cases e) (by simpa[fY]using hc.symm)
 |@zs d e rows y h=>
  refine one (.zs h) ?_ ?_ (by simpa[fY]using hc.symm);intro l e;subst e;cases d with
  |zero=>cases h
  |succ d=>rcases h with h|⟨_,_,_,_,_,_,_,h,_⟩<;>cases h
  intro l e;subst e;cases d with
  |zero=>cases h
  |succ d=>rcases h with h|⟨_,_,_,_,_,_,_,h,_⟩<;>cases h
 |zm h he=>exact one (.zm h he) (by intro l e;cases e) (by intro l e;cases e) (by simpa[fY]using hc.symm)
 |zm0=>exact one .zm0 (by intro l e;cases e) (by intro l e;cases e) (by simpa[fY]using hc.symm)
 |zt h=>exact one (.zt h) (by rintro l rfl;rcases h with⟨_,h⟩|⟨_,_,_,_,h,_⟩<;>cases h) (by rintro l rfl;rcases h with⟨_,h⟩|⟨_,_,_,_,h,_⟩<;>cases h) (by simpa[fY]using hc.symm)
 |zp h=>exact one (.zp h) (by rintro l rfl;rcases h with⟨_,h,_⟩|⟨_,_,_,_,_,_,_,_,h,_⟩<;>cases h) (by rintro l rfl;rcases h with⟨_,h,_⟩|⟨_,_,_,_,_,_,_,_,h,_⟩<;>cases h) (by simpa[fY]using hc.symm)
def Ku (a b:IntKind):kEq a b=decide (a=b):=by cases a<;>cases b<;>rfl
def LR.zero {C} (zero:aA Value):LR (RV C) (zero.map .v) (Sim.zeroRow zero):=by
 unfold Sim.zeroRow
 induction zero with
 |nil=>exact .nil
 |cons a as ih=>exact .cons (.cl (.v a)) ih
def SL.zero {n m} (zero:aA Value):SL n (List.replicate m (Sim.zeroRow zero)):=fun i row _ hr c hc=>by
 rw[bW3]at hr
 split at hr
 cases hr
 unfold Sim.zeroRow at hc
 obtain⟨x,_,rfl⟩:=cQ3.1 hc
 rfl
 cases hr
def LR.zeroP (zero:aA Value):LR (RC true) (zero.map .v) (Sim.zeroRow zero):=by
 unfold Sim.zeroRow
 induction zero with
 |nil=>exact .nil
 |cons a as ih=>exact .cons (.v a) ih
def RV.plain {C} {x} {y} (h:RV C x y) (hp:gZ x=true):RC true x y:=by
 cases h with
 |cl h=>exact h.plain hp
 |_=>simp[gZ]at hp
def LR.plain {C} {xs} {ys} (h:LR (RV C) xs ys) (hp:xs.all gZ=true):LR (RC true) xs ys:=
 ⟨h.1,fun j x y a b=>(h.2 j x y a b).plain (yW2.1 hp x (zC2 a))⟩
def yB (e:Nat):∀(xs:aA PV) (K:aA (aA PV)->aB R) (r:R),xU e xs K=some r->∃rows,K rows=some r/\rows.length=xs.length/\
  ∀(i:Nat) (x:PV),xs[i]? =some x->∃cs,fY x=some cs/\cs.length=e/\cs.all gZ=true/\rows[i]? =some cs
 |[],K,r,h=>⟨[],h,rfl,fun i x d=>by simp at d⟩
 |x::xs,K,r,h=>by
  simp only[xU,lR,yR2]at h
  obtain⟨cs,a,h⟩:=h
  by_cases hc:(Nat.beq cs.length e&&cs.all gZ)=true
  rw[hc,zE2]at h
  simp only[yS2,aW,zD2]at hc
  obtain⟨rows,h1,h2,b⟩:=yB e xs _ r h
  refine⟨cs::rows,h1,by simp[h2],fun i y hy=>?_⟩
  cases i with
  |zero=>simp at hy;subst hy;exact⟨cs,a,hc.1,hc.2,rfl⟩
  |succ i=>simp at hy;obtain⟨c,f,g,j,k⟩:=b i y hy;exact⟨c,f,g,j,by simpa using k⟩
  simp only[bA3]at hc
  rw[hc]at h
  simp at h
def zX:∀i js,Kr i js=true->js=List.range' i js.length
 |_,[],_=>rfl
 |i,j::js,h=>by
  simp only[Kr,aW]at h
  by_cases e:i=j
  simp only[e,aS3,zE2]at h
  subst e
  rw[zZ2,List.range'_succ]
  congr 1
  exact zX _ js h
  simp[e]at h
end
end Go.P
namespace Go.P
open Go.Sim (AV AO Hp fQ upd St IC IX Ex gC CK Wf Out doOp)
variable {B:Nat->Prop} {C C':Cx} {L L':Nat->aB AO} {R:Type} {a c d i id j lim n nS:Nat} {pl:Pl} {po:cS} {w w':Nat->aB (Nat×Nat×Nat)}
structure cM (C:Cx) (n:Nat) (h:aJ) (lim:Nat) (s:Hp):Prop where
 hr:HR C h (Sim.look s.h) lim s.n
 dom:∀k pl,C k=some pl->k<n
 wf:Wf s.h s.n
 lim:lim<=s.n
def gB:cS->Bool
 |.lst ty _ _ _=>dY ty
 |.lz .. =>false
 |.tr .. =>false
 |_=>true
structure Fr (C:Cx) (h:aJ) (s:Hp) (C':Cx) (h':aJ) (s':Hp):Prop where
 sk:Sk s.h s'.h s.n
 n:s.n<=s'.n
 keep:∀id,id<s.n->¬Sz C h id->Sim.look s'.h id=Sim.look s.h id
 own:∀id,id<s.n->Sz C' h' id->Sz C h id
 kd:∀k o,aG h k=some o->∃o',aG h' k=some o'/\(gB o'=true->gB o=true/\C' k=C k)
 zl:∀id o,C.z id=some o->C'.z id=some o
 zn:∀id,id<s.n->C'.z id≠none->C.z id≠none\/Sz C h id
def Fr.refl (C:Cx) (h:aJ) (s:Hp):Fr C h s C h s:=⟨.refl _ _,yX2 _,fun _ _ _=>rfl,fun _ _ h=>h,fun k o h=>⟨o,h,fun hb=>⟨hb,rfl⟩⟩,fun _ _ h=>h,fun _ _ h=>.inl h⟩
def Fr.trans {C C' C''} {h h' h''} {s s' s''} (a:Fr C h s C' h' s') (b:Fr C' h' s' C'' h'' s''):Fr C h s C'' h'' s'':=
  ⟨a.sk.trans b.sk a.n,zX2 a.n b.n,fun id c hn=>by
    rw[b.keep id (aE3 c a.n) (fun e=>hn (a.own id c e)),a.keep id c hn],
   fun id c e=>a.own id c (b.own id (aE3 c a.n) e),
   fun k o hk=>by
    obtain⟨o',h1,h2⟩:=a.kd k o hk
    obtain⟨f,g,d⟩:=b.kd k o' h1
    exact⟨f,g,fun hb=>⟨(h2 (d hb).1).1,(d hb).2.trans (h2 (d hb).1).2⟩⟩,
   fun id o h=>b.zl id o (a.zl id o h),
   fun id c h=>by
    rcases b.zn id (aE3 c a.n) h with h1|h1
    exact a.zn id c h1
    exact .inr (a.own id c h1)⟩
def gQ (C:Cx) (n:Nat) (h:aJ) (lim:Nat) (s:Hp) (k:gC) (ys:aA AV) (K:PV->aJ->Nat->aB R) (r:R):Prop:=
 ∃v h' n' C' out,K v h' n'=some r/\doOp (Sim.look s.h) lim s.n k ys=some out/\RV C' v out.v/\cM C' n' h' lim (out.apply s)/\
  C.le C'/\n<=n'/\Fr C h s C' h' (out.apply s)/\(Pa k=false->∀id,id<s.n->Sim.look (out.apply s).h id=Sim.look s.h id)
section
variable {h:aJ} {s:Hp} {k:gC} {ys:List AV} {K:PV->aJ->Nat->Option R} {r:R}
def bC (a:cM C n h lim s) {v} {y} (hd:doOp (Sim.look s.h) lim s.n k ys=some {v:=y}) (hv:RV C v y) (hK:K v h n=some r):gQ C n h lim s k ys K r:=
 ⟨v,h,n,C,_,hK,hd,hv,a,.refl C,yX2 _,.refl _ _ _,fun _ _ _=>rfl⟩
def eK {h} {n} {o} {id}:Sim.look (.ob n o::h) id=if n=id then some o else Sim.look h id:=rfl
def ext (C:Cx) (n:Nat) (pl:Pl):Cx:=⟨fun k=>if k=n then some pl else C k,C.z,C.w⟩
def mO (a:cM C n h lim s) (pl:Pl):C.le (ext C n pl):=⟨fun k q hk=>by
 have:=a.dom k q hk
 simp only[ext]
 rw[zB2 (by omega)]
 exact hk,fun _ _ h=>h⟩
def eL.monoD {L L':Nat->aB AO} {w w':Nat->aB (Nat×Nat×Nat)} {nS c:Nat} (hn:nS<=c) {B:Nat->Prop} (g:∀o sl,w o=some sl->¬B sl.1->¬B o) (k:∀o sl,w o=some sl->¬B sl.1->w' o=some sl/\L' o=L o):
  ∀{d} {sl} {t} {x} {y},¬B sl.1->eL L w lim nS d sl t x y->eL L' w' lim c d sl t x y
 |0,_,_,_,_,_,h=>h.elim
 |d+1,sl,.nd ty e ks,x,y,hb,h=>by
  rcases h with h|⟨rows,h1,h2⟩
  exact .inl h
  refine .inr ⟨rows,h1,?_⟩
  rcases h2 with h2|⟨id,ver,els,k1,k2,k3,k4,kf,k5,k6,k7⟩
  exact .inl h2
  obtain⟨w1,w2⟩:=k id sl k2 hb
  have f:¬B id:=g id sl k2 hb
  refine .inr ⟨id,ver,els,k1,w1,k3,by omega,kf,w2.trans k5,k6,fun i r r' a b=>⟨(k7 i r r' a b).1,fun j l m a1 b1=>?_⟩⟩
  have:=(k7 i r r' a b).2 j l m a1 b1
  cases hk:eZ ks j with
  |none=>rw[hk]at this;exact this
  |some t=>rw[hk]at this;exact eL.monoD hn g k f this
def eL.mono (hn:nS<=a) (c:∀b,B b->w b=none) (e:∀o sl,w o=some sl->¬B sl.1->w' o=some sl/\L' o=L o) {sl:Nat×Nat×Nat} {t:TD} {x:PV} {y:AV} (hb:¬B sl.1) (h:eL L w lim nS d sl t x y):eL L' w' lim a d sl t x y:=
 eL.monoD hn (fun o sl h _ hc=>by rw[c o hc]at h;cases h) e hb h
def eL.up1 {L} {w} {lim nS}:∀{d} {sl} {t} {x} {y},eL L w lim nS d sl t x y->eL L w lim nS (d+1) sl t x y
 |0,_,_,_,_,h=>h.elim
 |d+1,sl,.nd ty e ks,x,y,h=>by
  rcases h with h|⟨rows,h1,h2⟩
  exact .inl h
  refine .inr ⟨rows,h1,?_⟩
  rcases h2 with h2|⟨id,ver,els,k1,k2,k3,k4,kf,k5,k6,k7⟩
  exact .inl h2
  refine .inr ⟨id,ver,els,k1,k2,k3,k4,kf,k5,k6,fun i r r' a b=>⟨(k7 i r r' a b).1,fun j c f a1 b1=>?_⟩⟩
  have:=(k7 i r r' a b).2 j c f a1 b1
  cases hk:eZ ks j with
  |none=>rw[hk]at this;exact this
  |some t=>rw[hk]at this;exact eL.up1 this
def eL.up {L} {w} {lim nS d d'} (hd:d<=d') {sl} {t} {x} {y} (h:eL L w lim nS d sl t x y):eL L w lim nS d' sl t x y:=by
 induction hd with
 |refl=>exact h
 |step _ ih=>exact ih.up1
def TC.monoD {C':Cx} {L L':Nat->aB AO} {nS c d id i j:Nat} {ks:aA (Nat×TD)} {hs:aA (Nat×Nat×PV)} {a:PV} {b:AV} (hn:nS<=c) (f:C.le C') {B:Nat->Prop} (e:∀o sl,C.w o=some sl->¬B sl.1->¬B o) (g:∀o sl,C.w o=some sl->¬B sl.1->C'.w o=some sl/\L' o=L o) (hb:¬B id) (h:TC C L lim nS d id ks hs i j a b):TC C' L' lim c d id ks hs i j a b:=by
 unfold TC at h ⊢;cases hk:eZ ks j with
 |none=>rw[hk]at h;exact h
 |some t=>
  rw[hk]at h;simp only at h ⊢;rcases h with⟨h1,h2⟩|⟨h1,h2⟩
  exact .inl ⟨h1,fun x k=>RV.mono f (h2 x k)⟩;exact .inr ⟨h1,eL.monoD hn e g hb h2⟩
def TC.mono {ks:aA (Nat×TD)} {hs:aA (Nat×Nat×PV)} {a:PV} {b:AV} (hn:nS<=c) (f:C.le C') (e:∀b,B b->C.w b=none) (g:∀o sl,C.w o=some sl->¬B sl.1->C'.w o=some sl/\L' o=L o) (hb:¬B id) (h:TC C L lim nS d id ks hs i j a b):TC C' L' lim c d id ks hs i j a b:=TC.monoD hn f (fun o sl h _ hc=>by rw[e o hc]at h;cases h) g hb h
def TC.none {C} {L} {nS d id i j} {ks} {hs} {a} {b} (hk:eZ ks j=none):TC C L lim nS d id ks hs i j a b↔RC true a b:=by
 unfold TC;rw[hk]
def fI.monoD {C':Cx} {L L':Nat->aB AO} {nS q:Nat} {po:cS} {pl:Pl} (hn:nS<=q) (p:C.le C') {B:Nat->Prop} (u:∀o sl,C.w o=some sl->¬B sl.1->¬B o) (z:∀o sl,C.w o=some sl->¬B sl.1->C'.w o=some sl/\L' o=L o) (hb:∀id ver e len,pl=.atp id ver e len->¬B id) (n:∀id ver e len,pl=.atp id ver e len->L' id=L id) (c:fI C L lim nS po pl):fI C' L' lim q po pl:=by
 cases po with
 |box cells=>
  cases pl with
  |nil=>exact c
  |atp id ver e len=>
   obtain⟨h1,h2,ty,esz,row,h,k⟩:=c;exact⟨h1,by omega,ty,esz,row,by rw[n id ver e len rfl];exact h,k.mono (fun x y hv=>hv.mono p)⟩
 |lst ty e g rows=>
  cases pl with
  |nil=>exact c
  |atp id ver e' len=>
   obtain⟨h1,h2,h,k,els,l,m⟩:=c;exact⟨h1,by omega,h,k,els,by rw[n id ver e' len rfl];exact l,m⟩
 |lz ty e dp rows=>
  cases pl with
  |nil=>exact c
  |atp id ver e' len=>
   obtain⟨h1,h2,h,k,hf,els,l,m⟩:=c;exact⟨h1,by omega,h,k,hf,els,by rw[n id ver e' len rfl];exact l,m.mono p.2⟩
 |mp es=>
  cases pl with
  |nil=>exact c
  |atp id ver e len=>
   obtain⟨h1,h2,es',h,k⟩:=c;exact⟨h1,by omega,es',by rw[n id ver e len rfl];exact h,k⟩
 |fl fs=>
  cases pl with
  |nil=>exact c
  |atp id ver e len=>
   obtain⟨h1,h2,h,k,ty,els,l,m,s⟩:=c;exact⟨h1,by omega,h,k,ty,els,by rw[n id ver e len rfl];exact l,m,fun i f row a b=>(s i f row a b).mono (fun x y hv=>hv.mono p)⟩
 |loop N e ps a b busy fin=>
  cases pl with
  |nil=>exact c
  |atp id ver e' len=>
   obtain⟨h1,h2,st,pend,tmps,h,k,l,m⟩:=c;exact⟨h1,by omega,st,pend,tmps,by rw[n id ver e' len rfl];exact h,k,fun i v hv=>(l i v hv).imp fun y hy=>⟨hy.1,hy.2.mono p⟩,m⟩
 |tr t rows hs=>
  cases t with
  |nd ty e ks=>
  cases pl with
  |nil=>exact c
  |atp id ver e' len=>
   obtain⟨h1,h2,h,k,hf,els,d,l,m,s⟩:=c;exact⟨h1,by omega,h,k,hf,els,d,by rw[n id ver e' len rfl];exact l,m,fun i r r' a b=>⟨(s i r r' a b).1,fun j A D a1 b1=>((s i r r' a b).2 j A D a1 b1).monoD hn p u z (hb id ver e' len rfl)⟩⟩
def fI.monoB (hn:nS<=a) (d:C.le C') (c:∀b,B b->C.w b=none) (g:∀o sl,C.w o=some sl->¬B sl.1->C'.w o=some sl/\L' o=L o) (hb:∀id ver e len,pl=.atp id ver e len->¬B id) (f:∀id ver e len,pl=.atp id ver e len->L' id=L id) (i:fI C L lim nS po pl):fI C' L' lim a po pl:=fI.monoD hn d (fun o sl h _ hc=>by rw[c o hc]at h;cases h) g hb f i
def fI.mono (hn:nS<=a) (b:C.le C') (c:∀id ver e len,pl=.atp id ver e len->L' id=L id) (d:∀o sl,C.w o=some sl->C'.w o=some sl/\L' o=L o) (f:fI C L lim nS po pl):fI C' L' lim a po pl:=
 f.monoB hn b (B:=fun _=>False) (fun _ h=>h.elim) (fun o sl h _=>d o sl h) (fun _ _ _ _ _ h=>h) c
def fI.lt {L} {nS id ver e len} {po} (c:fI C L lim nS po (.atp id ver e len)):lim<=id/\id<nS:=by
 cases po with
 |box cells=>exact⟨c.1,c.2.1⟩
 |lst ty e g rows=>exact⟨c.1,c.2.1⟩
 |lz ty e dp rows=>exact⟨c.1,c.2.1⟩
 |mp es=>exact⟨c.1,c.2.1⟩
 |fl fs=>exact⟨c.1,c.2.1⟩
 |loop N e ps a b busy fin=>exact⟨c.1,c.2.1⟩
 |tr t rows hs=>cases t with|nd ty e ks=>exact⟨c.1,c.2.1⟩
def HR.lt {L} {nS} (H:HR C h L lim nS) {k id ver e len} (hk:aG h k≠none) (a:C k=some (.atp id ver e len)):lim<=id/\id<nS:=by
 cases ho:aG h k with
 |none=>exact absurd ho hk
 |some po=>
  obtain⟨pl,h1,h2⟩:=H.ob k po ho;rw[a]at h1;cases h1;exact h2.lt
def dB1 (a:cM C n h lim s) {k} (hk:n<=k):C k=none:=by
 cases hc:C k with
 |none=>rfl
 |some pl=>have:=a.dom k pl hc;omega
def uF (a:cM C n h lim s) {k} (hk:n<=k):aG h k=none:=by
 cases hc:aG h k with
 |none=>rfl
 |some po=>
  obtain⟨pl,h1,_⟩:=a.hr.ob k po hc;have:=a.dom k pl h1;omega
def rN1 (b:cM C n h lim s) {po} {pl}:∀k o,aG h k=some o->∃o',aG ((n,po)::h) k=some o'/\(gB o'=true->gB o=true/\ext C n pl k=C k):=fun k o hk=>by
 have a:n≠k:=fun e=>by rw[uF b (by omega)]at hk;cases hk
 exact⟨o,by simp[aG,a,hk],fun hb=>⟨hb,by simp[ext,Ne.symm a]⟩⟩
theorem qA (d:cM C n h lim s) {po} {ao} {ver e len} (A:fI (ext C n (.atp s.n ver e len)) (Sim.look (.ob s.n ao::s.h)) lim (s.n+1) po (.atp s.n ver e len)):
  cM (ext C n (.atp s.n ver e len)) (n+1) ((n,po)::h) lim {h:=.ob s.n ao::s.h,n:=s.n+1}/\Fr C h s (ext C n (.atp s.n ver e len)) ((n,po)::h) {h:=.ob s.n ao::s.h,n:=s.n+1}/\
  ∀id,id<s.n->Sim.look (.ob s.n ao::s.h) id=Sim.look s.h id:=by
 have r:=mO d (.atp s.n ver e len)
 have c:∀id,id<s.n->Sim.look (.ob s.n ao::s.h) id=Sim.look s.h id:=fun id j=>by
  rw[eK,zB2 (by omega)]
 have g:∀k,aG ((n,po)::h) k≠none->k≠n->aG h k≠none:=fun k hk m=>by
  simpa[aG,Ne.symm m]using hk
 have f:∀k q,k≠n->ext C n (.atp s.n ver e len) k=some q->C k=some q:=fun k q m hk=>by
  simpa[ext,m]using hk
 refine⟨⟨⟨fun k o hk=>?_,fun k k' id v1 i u v2 e2 D h1 h2 x y=>?_,fun id o B=>?_,fun k id v1 i u h1 h2=>?_,fun id sl hw=>⟨Nat.lt_succ_of_lt (d.hr.wb id sl hw).1,Nat.lt_succ_of_lt (d.hr.wb id sl hw).2⟩,d.hr.wz⟩,fun k pl hk=>?_,⟨by simp,d.wf⟩,by have:=d.lim;show lim<=s.n+1;omega⟩,⟨.new _ _ _,by simp,fun id j _=>c id j,fun id j p=>?_,rN1 d,fun _ _ h=>h,fun _ _ h=>.inl h⟩,c⟩;simp only[aG]at hk;split at hk;rename_i i;subst i;cases hk;exact⟨_,by simp[ext],A⟩;obtain⟨pl,z,t⟩:=d.hr.ob k o hk;refine⟨pl,r.1 _ _ z,t.mono (by simp) r (fun id ver e len hp=>?_) (fun o sl hw=>⟨hw,c o (d.hr.wb o sl hw).1⟩)⟩;subst hp;exact c id t.lt.2;by_cases a:k=n;by_cases b:k'=n;rw[a,b];exfalso;subst a;simp[ext]at x;have:=(d.hr.lt (g k' h2 b) (f k' _ b y)).2;omega;by_cases b:k'=n;exfalso;subst b;simp[ext]at y;have:=(d.hr.lt (g k h1 a) (f k _ a x)).2;omega;exact d.hr.inj k k' id v1 i u v2 e2 D (g k h1 a) (g k' h2 b) (f k _ a x) (f k' _ b y);obtain⟨z1,z2,z3,z4⟩:=d.hr.zr id o B;refine⟨(c id z2).trans z1,Nat.lt_succ_of_lt z2,fun k v e' l h1 h2=>?_,z4⟩;by_cases a:k=n;subst a;simp[ext]at h2;omega
 grind
 by_cases a:k=n;subst a;simp[ext]at h2;show C.w id=none
 cases hw:C.w id with
 |none=>rfl
 |some sl=>have:=(d.hr.wb id sl hw).1;omega
 exact d.hr.wn k id v1 i u (g k h1 a) (f k _ a h2);by_cases a:k=n;omega;have:=d.dom k pl (f k pl a hk);omega;rcases p with⟨k,v1,i,u,z,t⟩|p;by_cases a:k=n;subst a;simp[ext]at t;omega;exact .inl ⟨k,v1,i,u,g k z a,f k _ a t⟩;exact .inr p
def Yo (C:Cx) (L:Nat->aB AO) (lim nS ty e:Nat) (g:Bool):fI C L lim nS (oV ty e g) .nil:=by
 unfold oV;cases Nat.ble 4294967296 e<;>rfl
theorem Kv (d:cM C n h lim s) {ty e} {g}:cM (ext C n .nil) (n+1) ((n,oV ty e g)::h) lim s/\Fr C h s (ext C n .nil) ((n,oV ty e g)::h) s:=by
 have p:=mO d .nil
 have f:∀k,aG ((n,oV ty e g)::h) k≠none->k≠n->aG h k≠none:=fun k hk j=>by
  simpa[aG,Ne.symm j]using hk
 have c:∀k q,k≠n->ext C n .nil k=some q->C k=some q:=fun k q j hk=>by
  simpa[ext,j]using hk
 refine⟨⟨⟨fun k o hk=>?_,fun k k' id v1 i r v2 e2 A h1 h2 x y=>?_,fun id o z=>?_,fun k id v1 i r h1 h2=>?_,d.hr.wb,d.hr.wz⟩,fun k pl hk=>?_,d.wf,d.lim⟩,⟨.refl _ _,yX2 _,fun id u _=>rfl,fun id u m=>?_,rN1 d,fun _ _ h=>h,fun _ _ h=>.inl h⟩⟩;simp only[aG]at hk;split at hk;rename_i i;subst i;cases hk;exact⟨.nil,by simp[ext],Yo ..⟩;obtain⟨pl,w,t⟩:=d.hr.ob k o hk;exact⟨pl,p.1 _ _ w,t.mono (yX2 _) p (fun _ _ _ _ _=>rfl) (fun _ _ hw=>⟨hw,rfl⟩)⟩;by_cases a:k=n;subst a;simp[ext]at x;by_cases b:k'=n;subst b;simp[ext]at y;exact d.hr.inj k k' id v1 i r v2 e2 A (f k h1 a) (f k' h2 b) (c k _ a x) (c k' _ b y);obtain⟨z1,z2,z3,z4⟩:=d.hr.zr id o z;refine⟨z1,z2,fun k v e' l h1 h2=>?_,z4⟩;by_cases a:k=n;subst a;simp[ext]at h2
 grind
 by_cases a:k=n;subst a;simp[ext]at h2;exact d.hr.wn k id v1 i r (f k h1 a) (c k _ a h2);by_cases a:k=n;omega;have:=d.dom k pl (c k pl a hk);omega;rcases m with⟨k,v1,i,r,w,t⟩|m;by_cases a:k=n;subst a;simp[ext]at t;exact .inl ⟨k,v1,i,r,f k w a,c k _ a t⟩;exact .inr m
theorem rT (c:cM C n h lim s) {k id ver e len} {po po'} {ao} (hk:aG h k=some po) (p:C k=some (.atp id ver e len))
  (A:fI C (Sim.look (upd s.h id ao)) lim s.n po' (.atp id ver e len)) (hb:gB po'=gB po):
  cM C n (cC h k po') lim {h:=upd s.h id ao,n:=s.n}/\Fr C h s C (cC h k po') {h:=upd s.h id ao,n:=s.n}:=by
 have g:∀j,aG (cC h k po') j=if j=k then some po' else aG h j:=fun j=>by
  rw[dI];simp[hk]
 have d:∀j,aG (cC h k po') j≠none->aG h j≠none:=fun j f=>by grind
 have a:∀j,j≠id->Sim.look (upd s.h id ao) j=Sim.look s.h j:=fun j f=>by
  rw[Sim.look_upd];simp[f]
 refine⟨⟨⟨fun j o f=>?_,fun j u i v1 b m v2 e2 z h1 h2 w x=>c.hr.inj j u i v1 b m v2 e2 z (d j h1) (d u h2) w x,fun i o y=>?_,fun j i v1 b m h1 h2=>c.hr.wn j i v1 b m (d j h1) h2,c.hr.wb,c.hr.wz⟩,c.dom,c.wf.upd _ _,c.lim⟩,⟨.upd _ _ _ _,yX2 _,fun i hi hn=>a i (fun b=>hn ?_),fun i hi hn=>?_,fun j o f=>?_,fun _ _ h=>h,fun _ _ h=>.inl h⟩⟩;rw[g]at f;split at f
 grind
 rename_i r;obtain⟨pl,q,t⟩:=c.hr.ob j o f;refine⟨pl,q,t.mono (yX2 _) (.refl C) (fun i v1 b m hp=>a i (fun e2=>r ?_)) (fun o sl hw=>⟨hw,a o fun e2=>by rw[e2,c.hr.wn k id ver e len (by rw[hk];simp) p]at hw;cases hw⟩)⟩;subst hp;subst e2;exact c.hr.inj j k i v1 b m ver e len (by rw[f];simp) (by rw[hk];simp) q p;obtain⟨z1,z2,z3,z4⟩:=c.hr.zr i o y;refine⟨(a i (fun b=>?_)).trans z1,z2,fun j v e' l h1 h2=>z3 j v e' l (d j h1) h2,z4⟩;subst b;exact z3 k ver e len (by rw[hk];simp) p;subst b;exact .inl ⟨k,ver,e,len,by rw[hk];simp,p⟩;rcases hn with⟨j,v1,b,m,q,t⟩|hn;exact .inl ⟨j,v1,b,m,d j q,t⟩;exact .inr hn
 grind
end
end Go.P
namespace Go.P
open Go.Sim (AV AO Hp fQ upd St IC IX Ex gC CK Wf Out doOp)
variable {A R α:Type} {C:Cx} {els:aA (aA AV)} {i j lim m n o:Nat} {row:aA PV} {rows:aA (aA PV)}
section
variable {y:AV}
def gT {x} (h:RV C (.v x) y):y=.v x:=by cases h with|cl h=>cases h;rfl
def mD {cs} (h:RV C (.agg cs) y):∃cs',y=.agg cs'/\LR (RV C) cs cs':=by
 cases h with
 |cl h=>cases h with|agg a b=>exact⟨_,rfl,a,fun j x y p q=>.cl (b j x y p q)⟩
 |agg a b=>exact⟨_,rfl,a,b⟩
def wA {cs} (h:RV C (.tup cs) y):∃cs',y=.tup cs'/\LR (RV C) cs cs':=by
 cases h with
 |cl h=>cases h with|tup a b=>exact⟨_,rfl,a,fun j x y p q=>.cl (b j x y p q)⟩
 |tup a b=>exact⟨_,rfl,a,b⟩
def yC {cs} (h:RV C (.ip cs) y):∃cs',y=.ip cs'/\LR (RC false) cs cs':=by
 cases h with
 |cl h=>cases h with|ip a b=>exact⟨_,rfl,a,b⟩
def Vu {e} {rows} (h:RV C (.is e rows) y):(∃rows',y=.is e rows'/\RR rows rows')\/(rows=[]/\(y=.v (.slice none 0 0)\/y=.es)):=by
 cases h with
 |cl h=>cases h with
  |is a b c=>exact .inl ⟨_,rfl,.of_is a b c⟩
  |isn=>exact .inr ⟨rfl,.inl rfl⟩
def Pd {es} (h:RV C (.im es) y):∃es',y=.im es'/\ER es es':=by
 cases h with
 |cl h=>cases h with|im a b c=>exact⟨_,rfl,a,fun j x y p q=>⟨b j x y p q,c j x y p q⟩⟩
def kH {k o} (h:RV C (.ref k o) y):∃id ver e len,C k=some (.atp id ver e len)/\y=.ptr id ver 0 o:=by
 cases h with
 |cl h=>cases h
 |ref h=>exact⟨_,_,_,_,h,rfl⟩
def kI {k} (h:RV C (.own k) y):(∃id ver e len,C k=some (.atp id ver e len)/\y=.sl e id ver 0 len none)\/(C k=some .nil/\(y=.v (.slice none 0 0)\/y=.es)):=by
 cases h with
 |cl h=>cases h
 |own h=>exact .inl ⟨_,_,_,_,h,rfl⟩
 |ownn h hy=>exact .inr ⟨h,.inl hy⟩
def tM {e} {rows} (h:RV C (.is e rows) y):(∃rows',y=.is e rows'/\RR rows rows')\/(rows=[]/\y=.v (.slice none 0 0)):=by
 cases h with
 |cl h=>cases h with
  |is a b c=>exact .inl ⟨_,rfl,.of_is a b c⟩
  |isn=>exact .inr ⟨rfl,rfl⟩
def fA {k} (h:RV C (.own k) y):(∃id ver e len,C k=some (.atp id ver e len)/\y=.sl e id ver 0 len none)\/(C k=some .nil/\y=.v (.slice none 0 0)):=by
 cases h with
 |cl h=>cases h
 |own h=>exact .inl ⟨_,_,_,_,h,rfl⟩
 |ownn h hy=>exact .inr ⟨h,hy⟩
def tN {k i o} (h:RV C (.el k i o) y):∃id ver e len,C k=some (.atp id ver e len)/\y=.ptr id ver i o:=by
 cases h with
 |cl h=>cases h
 |el h=>exact⟨_,_,_,_,h,rfl⟩
def zY {k} (h:RV C (.map k) y):∃id ver e len,C k=some (.atp id ver e len)/\y=.map id:=by
 cases h with
 |cl h=>cases h
 |map h=>exact⟨_,_,_,_,h,rfl⟩
def Kw {k} (h:RV C (.yld k) y):∃id ver e len,C k=some (.atp id ver e len)/\y=.fn (.yield id) [] []:=by
 cases h with
 |cl h=>cases h
 |yld h=>exact⟨_,_,_,_,h,rfl⟩
def sM {f} {a b} (h:RV C (.fn f a b) y):∃a' b',y=.fn (.func f) a' b'/\LR (RV C) a a'/\LR (RV C) b b':=by
 cases h with
 |cl h=>cases h with|fn p q r s=>exact⟨_,_,rfl,⟨p,fun j x y h1 h2=>.cl (r j x y h1 h2)⟩,⟨q,fun j x y h1 h2=>.cl (s j x y h1 h2)⟩⟩
 |fn p q r s=>exact⟨_,_,rfl,⟨p,r⟩,⟨q,s⟩⟩
def LR.closed {xs} {ys} {p} (h:LR (RC p) xs ys):LR (RV C) xs ys:=h.mono fun _ _ h=>.cl h.weak
def zZ {l:aA α} {c:α} {t:aA α} (h:l.drop o=c::t):l[o]? =some c:=by
 have:=congrArg (fun l=>l[0]?) h;simpa[aI3]using this
end
section
variable {h:aJ} {s:Hp} {k:gC} {xs:List PV} {ys:List AV} {K:PV->aJ->Nat->Option R} {r:R}
def mP (C:Cx) (n:Nat) (pl:Pl):ext C n pl n=some pl:=yY2 rfl
def aD {a:A} {P:Prop} (h:(none:aB A)=some a):P:=by cases h
def uG1 (a:cM C n h lim s) (b:LR (RV C) xs ys) (hk:fE .mov xs h n K=some r):gQ C n h lim s .mov ys K r:=by
 rcases xs with _|⟨x,_|⟨x2,t⟩⟩
 exact aD hk;have hk:K x h n=some r:=hk;obtain⟨y,_,rfl,h1,h2⟩:=b.inv_cons;rw[h2.inv_nil];exact bC a rfl h1 hk;exact aD hk
def kC1 (c:cM C n h lim s) (d:LR (RV C) xs ys) (hk:fE .nilc xs h n K=some r):gQ C n h lim s .nilc ys K r:=by
  rcases xs with _|⟨x,_|⟨x2,t⟩⟩
  exact aD hk;obtain⟨y,_,rfl,h1,h2⟩:=d.inv_cons;rw[h2.inv_nil];cases x with
  |ref k o=>obtain⟨id,ver,e,len,hc,rfl⟩:=kH h1;exact bC c rfl h1 hk
  |ip cs=>obtain⟨cs',rfl,_⟩:=yC h1;exact bC c rfl h1 hk
  |el k i o=>obtain⟨id,ver,e,len,hc,rfl⟩:=tN h1;exact bC c rfl h1 hk
  |fn f a b=>obtain⟨a',b',rfl,_⟩:=sM h1;exact bC c rfl h1 hk
  |yld k=>obtain⟨id,ver,e,len,hc,rfl⟩:=Kw h1;exact bC c rfl h1 hk
  |zp cs=>
    have hk:K (.zp cs) h n=some r:=hk;cases h1 with
    |cl h1=>cases h1
    | zp h1 => rcases h1 with⟨cs',rfl,hl⟩|⟨id,ver,i,o,ty,e,els,row,rfl,hz,hi,hol,hl⟩
               exact bC c rfl (.zp (.inl ⟨_,rfl,hl⟩)) hk;exact bC c rfl (.zp (.inr ⟨id,ver,i,o,ty,e,els,row,rfl,hz,hi,hol,hl⟩)) hk
  |_=>exact aD hk
  exact aD hk
theorem uH1 {ty:TypeId} {size:Nat} (b:cM C n h lim s) (g:LR (RV C) xs ys) (hk:fE (.box ty size) xs h n K=some r):gQ C n h lim s (.box ty size) ys K r:=by
 rcases xs with _|⟨x,_|⟨x2,t⟩⟩
 exact aD hk;have hk:mL x (fun cs=>bif Nat.beq cs.length size then(bif Nat.beq size 0 then none else K (.ref n 0) ((n,.box cs)::h) (n+1))else none)=some r:=hk;obtain⟨y,_,rfl,h1,h2⟩:=g.inv_cons;rw[h2.inv_nil];rw[lR,yR2]at hk;obtain⟨cs,d,hk⟩:=hk;obtain⟨cs',c,hl⟩:=oZ h1 d;rw[aW]at hk;by_cases f:cs.length=size;rw[aF3 f,zE2,aW]at hk;by_cases e2:size=0
 grind
 rw[zO2 e2,zP2]at hk;have a:=mO b (.atp s.n 0 size 1);obtain⟨i,j,k⟩:=qA b (po:=.box cs) (ao:=.arr true ty size 0 [cs']) (ver:=0) (e:=size) (len:=1) ⟨b.lim,by omega,ty,size,cs',by rw[eK,yY2 rfl],hl.mono (fun _ _ h=>h.mono a)⟩;refine⟨_,_,_,_,{v:=.ptr s.n 0 0 0,new:=some (.arr true ty size 0 [cs'])},hk,?_,.ref (mP C n _),i,a,by omega,j,fun _=>k⟩;simp only[doOp,c];rw[yY2 ⟨by rw[<-hl.1];exact f,e2⟩]
 grind
 exact aD hk
def dC1 {ty:TypeId} {zero:aA Value} (a:cM C n h lim s) (c:LR (RV C) xs ys) (hk:fE (.alloc ty zero) xs h n K=some r):gQ C n h lim s (.alloc ty zero) ys K r:=by
 rcases xs with _|⟨x,t⟩
 have hk:vW (zero.map .v) (fun cs=>K (.ref n 0) ((n,.box cs)::h) (n+1))=some r:=hk;rw[rS]at hk;rw[c.inv_nil];have b:=mO a (.atp s.n 0 zero.length 1);obtain⟨d,f,g⟩:=qA a (po:=.box (zero.map .v)) (ao:=.arr true ty zero.length 0 [Sim.zeroRow zero]) (ver:=0) (e:=zero.length) (len:=1) ⟨a.lim,by omega,ty,zero.length,Sim.zeroRow zero,by rw[eK,yY2 rfl],LR.zero zero⟩;exact⟨_,_,_,_,{v:=.ptr s.n 0 0 0,new:=some (.arr true ty zero.length 0 [Sim.zeroRow zero])},hk,rfl,.ref (mP C n _),d,b,by omega,f,fun _=>g⟩;exact aD hk
def Fi:∀(cells:aA PV) (parts:aA (Nat×Nat)) (xs:aA PV) (K:aA PV->aB R) (r:R) (a ys:aA AV),Om cells parts xs K=some r->LR (RV C) cells a->LR (RV C) xs ys->
  ∃cs cs',K cs=some r/\Sim.fillParts a parts ys=some cs'/\LR (RV C) cs cs'
 |cells,[],[],K,r,a,ys,h,hl,hx=>by
  rw[hx.inv_nil]
  exact⟨cells,a,h,rfl,hl⟩
 |cells,(off,m)::ps,x::xs,K,r,a,ys,h,hl,hx=>by
  obtain⟨y,f,rfl,h1,h2⟩:=hx.inv_cons
  simp only[Om,lR,yR2]at h
  obtain⟨cs,e,h⟩:=h
  obtain⟨cs',d,b⟩:=oZ h1 e
  rw[aW]at h
  by_cases c:cs.length=m
  rw[aF3 c,zE2]at h
  obtain⟨j,g⟩:=jC _ _ _ _ _ h
  obtain⟨q,i,q1,q2,q3⟩:=Fi _ ps xs K r _ f g (hl.setL b off) h2
  refine⟨q,i,q1,?_,q3⟩
  simp only[Sim.fillParts,d]
  rw[yY2 ⟨by rw[<-b.1];exact c,by rw[<-hl.1];omega⟩]
  exact q2
  rw[zO2 c]at h;exact aD h
 |cells,[],_::_,K,r,a,ys,h,hl,hx=>aD h
 |cells,_::_,[],K,r,a,ys,h,hl,hx=>aD h
def dD1 {zero} {parts} (e:cM C n h lim s) (f:LR (RV C) xs ys) (hk:fE (.build zero parts) xs h n K=some r):gQ C n h lim s (.build zero parts) ys K r:=by
 have hk:vW (zero.map .v) (fun cs=>Om cs parts xs fun cs=>K (.agg cs) h n)=some r:=by
  rcases xs with _|⟨a,_|⟨b,_|⟨c,t⟩⟩⟩<;>exact hk
 rw[rS]at hk;obtain⟨cs,cs',g,i,d⟩:=Fi _ _ _ _ _ _ _ hk (LR.zero (C:=C) zero) f;refine bC e ?_ (.agg d.1 d.2) g;rcases ys with _|⟨a,_|⟨b,_|⟨c,t⟩⟩⟩<;>simp[doOp,i]
def wB (f:cM C n h lim s) {k id ver e len} {cs} (hg:aG h k=some (.box cs)) (d:C k=some (.atp id ver e len)):lim<=id/\∃ty esz row,Sim.look s.h id=some (.arr true ty esz ver [row])/\LR (RV C) cs row:=by
 obtain⟨pl,h1,h2⟩:=f.hr.ob k _ hg;rw[d]at h1;cases h1;obtain⟨a,b,c⟩:=h2;exact⟨a,c⟩
def lC (j:cM C n h lim s) {k id ver e len e2 ty} {g} {rows} (hg:aG h k=some (.lst ty e2 g rows)) (i:C k=some (.atp id ver e len)):lim<=id/\e=e2/\len=rows.length/\∃els,Sim.look s.h id=some (.arr false (zD ty) e2 ver els)/\RR rows (els.take rows.length)/\(rows.length<=els.length/\SL rows.length els)/\(g=false->els.length=rows.length):=by
 obtain⟨pl,h1,h2⟩:=j.hr.ob k _ hg;rw[i]at h1;cases h1;obtain⟨a,b,c,d,f⟩:=h2;exact⟨a,c,d,f⟩
def dE1 (j:cM C n h lim s) {k id ver e len} {fs} (hg:aG h k=some (.fl fs)) (g:C k=some (.atp id ver e len)):lim<=id/\e=1/\len=fs.length/\∃ty els,Sim.look s.h id=some (.arr false ty 1 ver els)/\els.length=fs.length/\∀(i:Nat) (f:PV) (row:aA AV),fs[i]? =some f->els[i]? =some row->LR (RV C) [f] row:=by
 obtain⟨pl,h1,h2⟩:=j.hr.ob k _ hg;rw[g]at h1;cases h1;obtain⟨a,b,c,d,f⟩:=h2;exact⟨a,c,d,f⟩
def dF1 (b:cM C n h lim s) {k} {fs} (hg:aG h k=some (.fl fs)) (a:C k=some .nil):False:=by
 obtain⟨pl,h1,h2⟩:=b.hr.ob k _ hg;rw[a]at h1;cases h1;exact h2
def mE (b:cM C n h lim s) {k e2 ty} {g} {rows} (hg:aG h k=some (.lst ty e2 g rows)) (a:C k=some .nil):rows=[]:=by
 obtain⟨pl,h1,h2⟩:=b.hr.ob k _ hg;rw[a]at h1;cases h1;exact h2
def Pe (f:cM C n h lim s) {k id ver e len} {es} (hg:aG h k=some (.mp es)) (d:C k=some (.atp id ver e len)):lim<=id/\∃es',Sim.look s.h id=some (.map es')/\EM es es':=by
 obtain⟨pl,h1,h2⟩:=f.hr.ob k _ hg;rw[d]at h1;cases h1;obtain⟨a,b,c⟩:=h2;exact⟨a,c⟩
def Fj {y} {c e} {rows} (h:RV C (.zt c e rows) y):ZT C.z c e rows y:=by
 cases h with
 |cl h=>cases h
 |zt h=>exact h
def tO {y} {d e} {rows} (h:RV C (.zs d e rows) y):RZ C.z d (.is e rows) y:=by
 cases h with
 |cl h=>cases h
 |zs h=>exact h
def rO1 {y} {es} (h:RV C (.zm es) y):(∃id es',y=.map id/\C.z id=some (.map es')/\EM es es')\/(es=[]/\y=.v (.map none)):=by
 cases h with
 |cl h=>cases h
 |zm h he=>exact .inl ⟨_,_,rfl,h,he⟩
 |zm0=>exact .inr ⟨rfl,rfl⟩
def Bh (b:cM C n h lim s) {k id ver e len e2 ty dp} {rows} (hg:aG h k=some (.lz ty e2 dp rows)) (a:C k=some (.atp id ver e len)):lim<=id/\id<s.n/\e=e2/\len=rows.length/\dY ty=false/\∃els,Sim.look s.h id=some (.arr false ty e2 ver els)/\Iq C.z dp rows els:=by
 obtain⟨pl,h1,h2⟩:=b.hr.ob k _ hg;rw[a]at h1;cases h1;exact h2
def Aa (b:cM C n h lim s) {k e2 ty dp} {rows} (hg:aG h k=some (.lz ty e2 dp rows)) (a:C k=some .nil):rows=[]:=by
 obtain⟨pl,h1,h2⟩:=b.hr.ob k _ hg;rw[a]at h1;cases h1;exact h2
def rP1 {p} {e} {rows} {y} (h:RC p (.is e rows) y):(∃rows',y=.is e rows'/\RR rows rows')\/(rows=[]/\y=.v (.slice none 0 0)):=by
 cases h with
 |is a b c=>exact .inl ⟨_,rfl,.of_is a b c⟩
 |isn=>exact .inr ⟨rfl,rfl⟩
def yD {z} {d e} {rows} {y} (h:RZ z d (.is e rows) y):
  ((∃rows',y=.is e rows'/\RR rows rows')\/(rows=[]/\y=.v (.slice none 0 0)))\/∃c id ver ty els,d=c+1/\y=.sl e id ver 0 rows.length none/\z id=some (.arr false ty e ver els)/\rows.length<=els.length/\Iq z c rows (els.take rows.length):=by
 cases d with
 |zero=>exact .inl (rP1 h)
 |succ d=>
  rcases h with h|⟨e',rows',id,ver,ty,els,h1,h2,h3,h4,h5⟩
  exact .inl (rP1 h);cases h1;refine .inr ⟨d,id,ver,ty,els,rfl,h2,h3,h4.1,by simp[bL3 h4.1],fun i r r' a b=>h5 i r r' a ?_⟩;rw[zR2]at b;split at b;exact b;cases b
def kZ (f:cM C n h lim s) {k id ver e len e2 ty} {ks} {rows} {hs} (hg:aG h k=some (.tr (.nd ty e2 ks) rows hs)) (c:C k=some (.atp id ver e len)):lim<=id/\id<s.n/\e=e2/\len=rows.length/\dY ty=false/\∃els d,Sim.look s.h id=some (.arr false ty e2 ver els)/\(rows.length<=els.length/\SL rows.length els)/\
  ∀i r r',rows[i]? =some r->els[i]? =some r'->r.length=r'.length/\∀j a b,r[j]? =some a->r'[j]? =some b->TC C (Sim.look s.h) lim s.n d id ks hs i j a b:=by
 obtain⟨pl,h1,h2⟩:=f.hr.ob k _ hg;rw[c]at h1;cases h1;exact h2
def qB (b:cM C n h lim s) {k} {t} {rows} {hs} (hg:aG h k=some (.tr t rows hs)) (a:C k=some .nil):rows=[]/\hs=[]:=by
 obtain⟨pl,h1,h2⟩:=b.hr.ob k _ hg;rw[a]at h1;cases h1;cases t;exact h2
def Ab (a:rows.length<=els.length/\SL rows.length els) (hi:rows[i]? =some row):∃b,els[i]? =some b:=by
 have c:=a.1;have d:i<rows.length:=(yT2.1 hi).1;exact⟨els[i]'(by omega),by simp⟩
def mF {α}:∀(cs l:aA α) (o:Nat),(Sim.setL l o cs).length=l.length
 |[],_,_=>rfl
 |c::cs,l,o=>by
  show(Sim.setL (l.set o c) (o+1) cs).length=_
  rw[mF cs,bX3]
def kJ {α}:∀{cs l:aA α} {o j:Nat},(j<o\/o+cs.length<=j)->(Sim.setL l o cs)[j]? =l[j]?
 |[],_,_,_,_=>rfl
 |c::cs,l,o,j,h=>by
  show(Sim.setL (l.set o c) (o+1) cs)[j]? =_
  simp only[zZ2]at h
  rw[kJ (by omega),zI2 (by omega)]
def rU {α}:∀{cs l:aA α} {o j:Nat},o+cs.length<=l.length->o<=j->j<o+cs.length->(Sim.setL l o cs)[j]? =cs[j-o]?
 |[],_,o,j,_,h1,h2=>by simp at h2;omega
 |c::cs,l,o,j,h,h1,h2=>by
  show(Sim.setL (l.set o c) (o+1) cs)[j]? =_
  simp only[zZ2]at h h2
  by_cases e:j=o
  subst e
  rw[kJ (by omega),zS2]
  simp
  omega
  rw[rU (by simpa using(by omega:o+1+cs.length<=l.length)) (by omega) (by omega),show j-o=(j-(o+1))+1 by omega,List.getElem?_cons_succ]
def wD {ks}:∀(cs:aA PV) (o:Nat) (K:aA PV->aB R) (r:R),xV ks o cs K=some r->∃cs',K cs'=some r/\cs'.length=cs.length/\∀(j:Nat) (a':PV),cs'[j]? =some a'->(∃a,cs[j]? =some a/\eZ ks (o+j)=none/\a'=a)\/a'=.undef
 |[],o,K,r,h=>⟨[],h,rfl,fun j a h=>by simp at h⟩
 |x::xs,o,K,r,h=>by
  unfold xV at h
  have step:∀(b:PV),((b=x/\eZ ks o=none)\/b=.undef)->xV ks (o+1) xs (fun xs=>K (b::xs))=some r->∃cs',K cs'=some r/\cs'.length=(x::xs).length/\∀(j:Nat) (a':PV),cs'[j]? =some a'->(∃a,(x::xs)[j]? =some a/\eZ ks (o+j)=none/\a'=a)\/a'=.undef:=fun b e h=>by
   obtain⟨cs',h1,h2,d⟩:=wD xs (o+1) _ r h
   refine⟨b::cs',h1,by simp[h2],fun j a' c=>?_⟩
   cases j with
   |zero=>
    simp only[aT3,yZ2]at c
    subst c
    rcases e with⟨rfl,hk⟩|rfl
    exact .inl ⟨b,rfl,hk,rfl⟩
    exact .inr rfl
   |succ j=>
    rw[List.getElem?_cons_succ]at c ⊢
    rw[show o+(j+1)=o+1+j by omega]
    exact d j a' c
  cases hk:eZ ks o with
  |none=>rw[hk]at h;exact step x (.inl ⟨rfl,hk⟩) h
  |some t=>rw[hk]at h;exact step _ (.inr rfl) h
theorem Fk {K:Unit->aB R} {r:R} (h:bP (Oo i j) K=some r):i=j/\K ()=some r:=by
 rw[bJ,yR2]at h;obtain⟨u,h1,h2⟩:=h;unfold Oo at h1;split at h1
 grind
 cases h1
def uG:∀{hs} {o},Fc hs o=none->∀i x,(o,i,x)∉hs
 |[],_,_,_,_=>fun h=>by cases h
 |(j,i',x)::r,o,h,i,y=>by
  unfold Fc at h
  rw[aW]at h
  by_cases e:j=o
  rw[aF3 e]at h;cases h
  rw[zO2 e]at h
  intro a
  rcases zF2.1 a with a|a
  cases a;exact e rfl
  exact uG h i y a
def uH:∀{hs} {o i} {x},Fc hs o=some (i,x)->(o,i,x)∈hs/\(∀q,q∈Yj hs o->q∈hs)/\∀c d y,¬(c=i/\d=o)->(d,c,y)∈hs->(d,c,y)∈Yj hs o
 |[],_,_,_,h=>by cases h
 |(j,i1,y)::r,o,i,x,h=>by
  unfold Fc at h
  rw[aW]at h
  by_cases e:j=o
  rw[aF3 e]at h
  cases h
  subst e
  simp only[Yj,aW,aS3,zE2]
  refine⟨List.mem_cons_self ..,fun q b=>aC3 _ b,fun c d y hn a=>?_⟩
  rcases zF2.1 a with a|a
  cases a;exact absurd ⟨rfl,rfl⟩ hn
  exact a
  rw[zO2 e]at h
  obtain⟨h1,h2,f⟩:=uH h
  simp only[Yj,aW,zO2 e,zP2]
  refine⟨aC3 _ h1,fun q b=>?_,fun c d y hn a=>?_⟩
  rcases zF2.1 b with b|b
  rw[b];exact List.mem_cons_self ..
  exact aC3 _ (h2 q b)
  rcases zF2.1 a with a|a
  rw[a];exact List.mem_cons_self ..
  exact aC3 _ (f c d y hn a)
def Fl {hs:aA (Nat×Nat×PV)} {K:aA (Nat×Nat×PV)->aB R} {r:R} (h:Vm hs o i K=some r):∃a,K a=some r/\∀b c x,¬(b=i/\c=o)->((c,b,x)∈a↔(c,b,x)∈hs):=by
 unfold Vm at h;cases hc:Fc hs o with
 |none=>rw[hc]at h;exact⟨hs,h,fun _ _ _ _=>Iff.rfl⟩
 |some p=>
  obtain⟨d,x⟩:=p;rw[hc]at h;simp only at h;obtain⟨e,h1⟩:=Fk h;subst e;exact⟨_,h1,fun b c y hn=>⟨(uH hc).2.1 _,(uH hc).2.2 b c y hn⟩⟩
def Pf (C:Cx) (ks:aA (Nat×TD)) (hs:aA (Nat×Nat×PV)) (i j:Nat) (a:PV) (b:AV):Prop:=match eZ ks j with
 |none=>RC true a b
 |some (.nd _ e _)=>a=.is e []/\((Bw hs i j/\∀x,(j,i,x)∈hs->RV C x b)\/(¬Bw hs i j/\b=.v (.slice none 0 0)))
def rV {ks} {i}:∀(ys:aA PV) (o:Nat) (hs:aA (Nat×Nat×PV)) (zs:aA AV) (K:aA PV->aA (Nat×Nat×PV)->aB R) (r:R),xW ks i o ys hs K=some r->LR (RV C) ys zs->
  ∃l c,K l c=some r/\l.length=ys.length/\(∀g d x,(g≠i\/d<o\/o+ys.length<=d)->((d,g,x)∈c↔(d,g,x)∈hs))/\∀(j:Nat) (a:PV) (b:AV),l[j]? =some a->zs[j]? =some b->Pf C ks c i (o+j) a b
 |[],o,hs,zs,K,r,h,hl=>⟨[],hs,h,rfl,fun _ _ _ _=>Iff.rfl,fun j a b h=>by simp at h⟩
 |y::ys,o,hs,zs,K,r,h,hl=>by
  obtain⟨z,p,rfl,hv,q⟩:=hl.inv_cons
  unfold xW at h
  cases hk:eZ ks o with
  |none=>
   rw[hk]at h
   simp only at h
   cases hp:gZ y with
   |false=>rw[hp]at h;exact aD h
   |true=>
    rw[hp,zE2]at h
    obtain⟨l,c,h1,h2,s,u⟩:=rV ys (o+1) hs p _ r h q
    refine⟨y::l,c,h1,by simp[h2],fun g d x hc=>s g d x (by simp only[zZ2]at hc;omega),fun j a b m hb=>?_⟩
    cases j with
    |zero=>
     simp only[aT3,yZ2]at m hb
     subst m hb
     unfold Pf
     rw[aZ3,hk]
     exact hv.plain hp
    |succ j=>
     rw[List.getElem?_cons_succ]at m hb
     rw[show o+(j+1)=o+1+j by omega]
     exact u j a b m hb
  |some t=>
   obtain⟨ty,e,w⟩:=t
   rw[hk]at h
   simp only at h
   have key:∀(f:aA (Nat×Nat×PV)),(∀g d x,¬(g=i/\d=o)->((d,g,x)∈f↔(d,g,x)∈hs))->((Bw f i o/\∀x,(o,i,x)∈f->RV C x z)\/(¬Bw f i o/\z=.v (.slice none 0 0)))->xW ks i (o+1) ys f (fun l hs=>K (.is e []::l) hs)=some r->∃l c,K l c=some r/\l.length=(y::ys).length/\(∀g d x,(g≠i\/d<o\/o+(y::ys).length<=d)->((d,g,x)∈c↔(d,g,x)∈hs))/\∀(j:Nat) (a:PV) (b:AV),l[j]? =some a->(z::p)[j]? =some b->Pf C ks c i (o+j) a b:=fun f q1 q2 h=>by
    obtain⟨l,c,h1,h2,s,u⟩:=rV ys (o+1) f p _ r h q
    refine⟨_,c,h1,by simp[h2],fun g d x hc=>?_,fun j a b m hb=>?_⟩
    simp only[zZ2]at hc
    rw[s g d x (by omega),q1 g d x (by omega)]
    cases j with
    |zero=>
     simp only[aT3,yZ2]at m hb
     subst m hb
     unfold Pf
     rw[aZ3,hk]
     have hi:=fun x=>s i o x (.inr (.inl (by omega)))
     refine⟨rfl,?_⟩
     rcases q2 with⟨⟨x,a1⟩,a2⟩|⟨a1,a2⟩
     exact .inl ⟨⟨x,(hi x).2 a1⟩,fun x k=>a2 x ((hi x).1 k)⟩
     exact .inr ⟨fun⟨x,k⟩=>a1 ⟨x,(hi x).1 k⟩,a2⟩
    |succ j=>
     rw[List.getElem?_cons_succ]at m hb
     rw[show o+(j+1)=o+1+j by omega]
     exact u j a b m hb
   split at h
   rename_i A
   obtain⟨f,h,q1⟩:=Fl h
   split at h
   rename_i hc
   refine key _ (fun g d x hn=>?_) (.inl ⟨⟨_,List.mem_cons_self ..⟩,fun x k=>?_⟩) h
   rw[<-q1 g d x hn]
   refine⟨fun n=>?_,fun n=>aC3 _ n⟩
   rcases zF2.1 n with n|n
   cases n;exact absurd ⟨rfl,rfl⟩ hn
   exact n
   rcases zF2.1 k with k|k
   cases k;exact hv
   exact absurd k (uG hc i x)
   exact aD h
   obtain⟨f,h,q1⟩:=Fl h
   split at h
   rename_i hc
   exact key _ q1 (.inr ⟨fun⟨x,k⟩=>uG hc i x k,gT hv⟩) h
   exact aD h
   exact aD h
def Ta (hr:RR rows (els.take rows.length)) (hi:rows[i]? =some row):∃a,els[i]? =some a/\LR (RC true) row a:=by
 obtain⟨a,h1,h2⟩:=hr.get hi;have b:i<rows.length:=(yT2.1 hi).1;rw[zR2,yY2 b]at h1;exact⟨a,h1,h2⟩
def Fm (C:Cx) (n:Nat) (h:aJ) (s:Hp) (k:gC) (ys:aA AV) (K:PV->aJ->Nat->aB R) (r:R):Prop:=∃v y,(∀lim nS,doOp (Sim.look s.h) lim nS k ys=some {v:=y})/\RV C v y/\K v h n=some r
def qO {k} {v} {y} (hd:∀lim nS,doOp (Sim.look s.h) lim nS k ys=some {v:=y}) (hv:RV C v y) (hK:K v h n=some r):Fm C n h s k ys K r:=⟨v,y,hd,hv,hK⟩
def Fm.step (d:cM C n h lim s) {k} (h1:Fm C n h s k ys K r):gQ C n h lim s k ys K r:=by
 obtain⟨v,y,a,b,c⟩:=h1;exact bC d (a _ _) b c
def Fo (u:cM C n h lim s) (M:LR (RV C) xs ys) (hk:fE .loadS xs h n K=some r):Fm C n h s .loadS ys K r:=by
 rcases xs with _|⟨x,_|⟨x2,t⟩⟩
 exact aD hk;obtain⟨y,_,rfl,h1,h2⟩:=M.inv_cons;rw[h2.inv_nil];cases x with
 |ref k o=>
  have hk:hK h k (fun ob=>match ob with
   |.box cs=>iX o cs fun cs=>match cs with
    |c::_=>K c h n
    |[]=>none
   |_=>none)=some r:=hk
  rw[gH,yR2]at hk;obtain⟨ob,hg,hk⟩:=hk;cases ob with
  |box cs=>
   obtain⟨N,l⟩:=dZ _ _ _ _ hk;obtain⟨id,ver,e,len,p,rfl⟩:=kH h1;obtain⟨_,ty,esz,row,q,hl⟩:=wB u hg p;cases hd:cs.drop o with
   |nil=>rw[hd]at l;exact aD l
   |cons c t=>
    rw[hd]at l;obtain⟨y,hy,hv⟩:=hl.get (zZ hd);exact qO (fun lim nS=>by simp[doOp,q,hy]) hv l
  |_=>exact aD hk
 |ip cs=>
  obtain⟨cs',rfl,hl⟩:=yC h1;cases cs with
  |nil=>exact aD hk
  |cons c t=>
   obtain⟨y,z,rfl,hv,_⟩:=hl.inv_cons;exact qO (fun _ _=>rfl) (.cl hv) hk
 |zp cs=>
  cases cs with
  |nil=>exact aD hk
  |cons c t=>
   have hk:K c h n=some r:=hk;cases h1 with
   |cl h1=>cases h1
   |zp h1=>
    rcases h1 with⟨cs',rfl,hl⟩|⟨id,ver,i,o,ty,e,els,row,rfl,hz,hi,hol,hl⟩
    obtain⟨y,z,rfl,hv,_⟩:=hl.inv_cons;exact qO (fun _ _=>rfl) (.cl hv.weak) hk;obtain⟨y,hy,hv⟩:=hl.get (j:=0) (by rfl);rw[aI3,aZ3]at hy;refine qO (fun lim nS=>by simp only[doOp,(u.hr.zr id _ hz).1,hi,hy,zT2];rfl) ?_ hk;rcases hv with B|⟨d,e9,r9,rfl,B⟩
    exact .cl B.weak;exact .zs B
 |el k i o=>
  have hk:hK h k (fun ob=>match ob with
   |.lst _ _ _ rows=>bP (lB rows i o) fun c=>K c h n
   |.fl fs=>bif Nat.beq o 0 then(iX i fs fun fs=>match fs with
    |f::_=>K f h n
    |[]=>none)else none
   |.tr t rows _=>match eZ t.ks o with
    |some _=>bP (lB rows i o) fun _=>K .undef h n
    |none=>bP (lB rows i o) fun c=>K c h n
   |_=>none)=some r:=hk
  rw[gH,yR2]at hk;obtain⟨ob,hg,hk⟩:=hk;cases ob with
  |lst ty e2 g rows=>
   simp only[bJ,yR2,lB]at hk;obtain⟨c,⟨row,hi,A⟩,hk⟩:=hk;obtain⟨id,ver,e,len,p,rfl⟩:=tN h1;obtain⟨_,rfl,_,els,q,hr,_⟩:=lC u hg p;obtain⟨a,b,hl⟩:=Ta hr hi;obtain⟨y,hy,hv⟩:=hl.get A;exact qO (fun lim nS=>by simp[doOp,q,b,hy]) (.cl hv.weak) hk
  |fl fs=>
   simp only[aW]at hk;by_cases H:o=0;subst H;rw[aF3 rfl,zE2]at hk;obtain⟨N,l⟩:=dZ _ _ _ _ hk;obtain⟨id,ver,e,len,p,rfl⟩:=tN h1;obtain⟨_,_,_,ty,els,q,hlen,hr⟩:=dE1 u hg p;cases hd:fs.drop i with
   |nil=>rw[hd]at l;exact aD l
   |cons c t=>
    rw[hd]at l;have hi:=zZ hd;have G:=(yT2.1 hi).1;obtain⟨y,z,m,hv,hn⟩:=(hr i c (els[i]'(by omega)) hi (by simp)).inv_cons;rw[hn.inv_nil]at m;have D:els[i]? =some [y]:=by rw[<-m];simp
    exact qO (fun lim nS=>by simp[doOp,q,D]) hv l
   rw[zO2 H]at hk;exact aD hk
  |tr t rows hs=>
   obtain⟨ty,e2,ks⟩:=t
   have J:∀{v:PV->PV},(∀(d id:Nat) (c:PV) (y:AV),TC C (Sim.look s.h) lim s.n d id ks hs i o c y->RV C (v c) y)->bP (lB rows i o) (fun c=>K (v c) h n)=some r->Fm C n h s .loadS [y] K r:=fun{v} hv w=>by
    simp only[bJ,yR2,lB]at w;obtain⟨c,⟨row,hi,A⟩,E⟩:=w;obtain⟨id,ver,e,len,p,rfl⟩:=tN h1;obtain⟨_,_,rfl,_,_,els,d,q,F,hr⟩:=kZ u hg p;obtain⟨a,b⟩:=Ab F hi;obtain⟨q1,q2⟩:=hr i row a hi b;have G:=(yT2.1 A).1;have hy:a[o]? =some (a[o]'(by omega)):=by simp
    exact qO (fun lim nS=>by simp[doOp,q,b,hy]) (hv d id c _ (q2 o c _ A hy)) E
   have hk:(match eZ ks o with
    |some _=>bP (lB rows i o) fun _=>K .undef h n
    |none=>bP (lB rows i o) fun c=>K c h n)=some r:=hk
   cases hkd:eZ ks o with
   |none=>
    rw[hkd]at hk;exact J (v:=fun c=>c) (fun d id c y L=>.cl ((TC.none hkd).1 L).weak) hk
   |some t=>
    rw[hkd]at hk;exact J (v:=fun _=>.undef) (fun _ _ _ _ _=>.undef) hk
  |_=>exact aD hk
 |_=>exact aD hk
 exact aD hk
def Fp (D:cM C n h lim s) (O:LR (RV C) xs ys) (hk:fE (.loadA m) xs h n K=some r):Fm C n h s (.loadA m) ys K r:=by
 rcases xs with _|⟨x,_|⟨x2,t⟩⟩
 exact aD hk;obtain⟨y,_,rfl,h1,h2⟩:=O.inv_cons;rw[h2.inv_nil];cases x with
 |ref k o=>
  have hk:hK h k (fun ob=>match ob with
   |.box cs=>iX o cs fun cs=>qJ m cs fun cs=>K (.agg cs) h n
   |_=>none)=some r:=hk
  rw[gH,yR2]at hk;obtain⟨ob,hg,hk⟩:=hk;cases ob with
  |box cs=>
   obtain⟨S,P⟩:=dZ _ _ _ _ hk;obtain⟨B,u⟩:=oY _ _ _ _ P;obtain⟨id,ver,e,len,z,rfl⟩:=kH h1;obtain⟨_,ty,esz,row,A,hl⟩:=wB D hg z;have hlen:=hl.1;simp only[cR3]at B;have f:=(hl.drop o).take m;exact qO (fun lim nS=>by simp[doOp,A];omega) (.agg f.1 f.2) u
  |_=>exact aD hk
 |ip cs=>
  obtain⟨cs',rfl,hl⟩:=yC h1;have hk:qJ m cs (fun cs=>K (.agg cs) h n)=some r:=hk;obtain⟨B,u⟩:=oY _ _ _ _ hk;have f:=hl.take m;refine qO (fun lim nS=>?_) (.cl (.agg f.1 f.2)) u;simp only[doOp];rw[yY2 (by rw[<-hl.1];exact B)]
 |zp cs=>
  have hk:qJ m cs (fun cs=>K (.agg cs) h n)=some r:=hk;obtain⟨B,u⟩:=oY _ _ _ _ hk;cases h1 with
  |cl h1=>cases h1
  |zp h1=>
   rcases h1 with⟨cs',rfl,hl⟩|⟨id,ver,i,o,ty,e,els,row,rfl,hz,hi,hol,hl⟩
   have f:=hl.take m;refine qO (fun lim nS=>?_) (.cl (.agg f.1 fun j x y a b=>(f.2 j x y a b).weak)) u;simp only[doOp];rw[yY2 (by rw[<-hl.1];exact B)];have f:=hl.take m
   refine qO (fun lim nS=>?_) (.agg f.1 fun j x y a b=>by
    rcases f.2 j x y a b with E|⟨d,e9,r9,rfl,E⟩
    exact .cl E.weak;exact .zs E) u
   have hlen:=hl.1;rw[cR3]at hlen;simp only[doOp,(D.hr.zr id _ hz).1,hi,zT2];rw[yY2 (by omega)]
 |el k i o=>
  have hk:hK h k (fun ob=>match ob with
   |.lst _ _ _ rows=>bP (lZ rows i o m) fun cs=>K (.agg cs) h n
   |.tr t rows _=>bP (lZ rows i o m) fun cs=>xV t.ks o cs fun cs=>K (.agg cs) h n
   |_=>none)=some r:=hk
  rw[gH,yR2]at hk;obtain⟨ob,hg,hk⟩:=hk;cases ob with
  |lst ty e2 g rows=>
   simp only[bJ,yR2,lZ]at hk;obtain⟨c,⟨row,hi,q⟩,hk⟩:=hk;split at q;rename_i L;cases q;obtain⟨id,ver,e,len,z,rfl⟩:=tN h1;obtain⟨_,rfl,_,els,A,hr,_⟩:=lC D hg z;obtain⟨l,p,hl⟩:=Ta hr hi;have f:=(hl.drop o).take m;have hlen:=hl.1;exact qO (fun lim nS=>by simp[doOp,A,p];omega) (.cl (.agg f.1 fun j x y a b=>(f.2 j x y a b).weak)) hk;cases q
  |tr t rows hs=>
   obtain⟨ty,e2,ks⟩:=t;simp only[TD.ks,bJ,yR2,lZ]at hk;obtain⟨c,⟨row,hi,q⟩,hk⟩:=hk;split at q;rename_i L;cases q;obtain⟨cs',hk,G,H⟩:=wD _ _ _ _ hk;obtain⟨id,ver,e,len,z,rfl⟩:=tN h1;obtain⟨_,_,rfl,_,_,els,d,A,J,hr⟩:=kZ D hg z;obtain⟨l,p⟩:=Ab J hi;obtain⟨q1,q2⟩:=hr i row l hi p;refine qO (v:=.agg cs') (y:=.agg ((l.drop o).take m)) (fun lim nS=>by simp[doOp,A,p];omega) (.agg (by simp at G ⊢;omega) fun j a b N hb=>?_) hk;rcases H j a N with⟨R,w,M,rfl⟩|rfl;rw[zR2]at w hb;split at w;rename_i F;rw[yY2 F,aI3]at hb;rw[aI3]at w;exact .cl ((TC.none M).1 (q2 (o+j) a b w hb)).weak;cases w;exact .undef;cases q
  |_=>exact aD hk
 |_=>exact aD hk
 exact aD hk
def dG1 (a:cM C n h lim s) (b:LR (RV C) xs ys) (hk:fE .loadS xs h n K=some r):gQ C n h lim s .loadS ys K r:=(Fo a b hk).step a
def dH1 {m} (a:cM C n h lim s) (b:LR (RV C) xs ys) (hk:fE (.loadA m) xs h n K=some r):gQ C n h lim s (.loadA m) ys K r:=(Fp a b hk).step a
def dI1 (J:cM C n h lim s) (hx:LR (RV C) xs ys) (hk:fE (.store m) xs h n K=some r):gQ C n h lim s (.store m) ys K r:=by
 rcases xs with _|⟨p,_|⟨x,_|⟨x2,t⟩⟩⟩
 exact aD hk;exact aD hk;obtain⟨y1,_,rfl,h1,h2⟩:=hx.inv_cons;obtain⟨y2,_,rfl,h3,h4⟩:=h2.inv_cons;rw[h4.inv_nil];cases p with
 |ref k o=>
  have hk:hK h k (fun ob=>match ob with
   |.box cs=>mL x fun ys=>bif Nat.beq ys.length m then qK cs o ys fun cs=>gA h k (.box cs) fun h=>K .undef h n else none
   |_=>none)=some r:=hk
  rw[gH,yR2]at hk;obtain⟨ob,hg,hk⟩:=hk;cases ob with
  |box cs=>
   simp only[lR,yR2]at hk;obtain⟨zs,G,hk⟩:=hk;obtain⟨q,F,y⟩:=oZ h3 G;rw[aW]at hk;by_cases W:zs.length=m;rw[aF3 W,zE2]at hk;obtain⟨k1,k2⟩:=jC _ _ _ _ _ hk;have k3:=dB _ _ _ _ _ k2;obtain⟨id,ver,e,len,A,rfl⟩:=kH h1;obtain⟨u,ty,esz,row,O,hl⟩:=wB J hg A;have E:=(J.hr.lt (by rw[hg];simp) A).2;obtain⟨m1,m2⟩:=rT J (po':=.box (Sim.setL cs o zs)) (ao:=.arr true ty esz ver [Sim.setL row o q]) hg A ⟨u,E,ty,esz,_,by rw[Sim.look_upd];simp[O],hl.setL y o⟩ rfl;have hlen:=hl.1;have U:=y.1;refine⟨_,_,_,_,{v:=.undef,up:=some (id,.arr true ty esz ver [Sim.setL row o q])},k3,?_,.undef,m1,.refl _,yX2 _,m2,fun he=>by cases he⟩;simp only[doOp,F,O];rw[yY2 ⟨by trivial,u,by omega⟩];simp only[aT3];rw[yY2 (by omega)];rfl;rw[zO2 W]at hk;exact aD hk
  |_=>exact aD hk
 |el k i o=>
  have hk:hK h k (fun ob=>match ob with
   |.lst ty e g rows=>mL x fun ys=>bif Nat.beq ys.length m&&ys.all gZ then bP (oS rows i o ys) fun rows=>gA h k (.lst ty e g rows) fun h=>K .undef h n else none
   |.tr t rows hs=>mL x fun ys=>bif Nat.beq ys.length m then xW t.ks i o ys hs fun ys hs=>bP (oS rows i o ys) fun rows=>gA h k (.tr t rows hs) fun h=>K .undef h n else none
   |_=>none)=some r:=hk
  rw[gH,yR2]at hk;obtain⟨ob,hg,hk⟩:=hk;cases ob with
  |lst ty e2 g rows=>
   simp only[lR,yR2]at hk;obtain⟨zs,G,hk⟩:=hk;obtain⟨q,F,y⟩:=oZ h3 G;by_cases hc:(Nat.beq zs.length m&&zs.all gZ)=true;rw[hc,zE2,bJ,yR2]at hk;simp only[yS2,aW,zD2]at hc;obtain⟨V,c,hk⟩:=hk;have k3:=dB _ _ _ _ _ hk;unfold oS at c;split at c;rename_i row hi;split at c;rename_i b7;cases c;obtain⟨id,ver,e,len,A,rfl⟩:=tN h1;obtain⟨u,rfl,hlen,els,O,hr,z,b4⟩:=lC J hg A;have E:=(J.hr.lt (by rw[hg];simp) A).2;obtain⟨f,D,hl⟩:=Ta hr hi;have P:i<rows.length:=(yT2.1 hi).1;have d0:=y.plain hc.2
   obtain⟨m1,m2⟩:=rT J (po':=.lst ty e g (rows.set i (Sim.setL row o zs))) (ao:=.arr false (zD ty) e ver (els.set i (Sim.setL f o q))) hg A
    ⟨u,E,rfl,by simpa using hlen,els.set i (Sim.setL f o q),by rw[Sim.look_upd];simp[O],by
     rw[bX3,List.take_set];exact hr.set (hl.setL d0 o) i,LS.set z hi,by simpa using b4⟩ rfl
   have b8:=hl.1;have U:=y.1;refine⟨_,_,_,_,{v:=.undef,up:=some (id,.arr false (zD ty) e ver (els.set i (Sim.setL f o q)))},k3,?_,.undef,m1,.refl _,yX2 _,m2,fun he=>by cases he⟩;simp only[doOp,F,O];rw[yY2 ⟨by trivial,u,by omega⟩,D];simp only;rw[yY2 (by omega)];cases c;cases c;simp only[bA3]at hc;rw[hc]at hk;exact aD hk
  |tr t rows hs=>
   obtain⟨ty,e2,ks⟩:=t;simp only[TD.ks,lR,yR2]at hk;obtain⟨zs,G,hk⟩:=hk;obtain⟨q,F,y⟩:=oZ h3 G;rw[aW]at hk;by_cases W:zs.length=m;rw[aF3 W,zE2]at hk;obtain⟨l,Y,hk,d3,b5,b6⟩:=rV _ _ _ _ _ _ hk y;rw[bJ,yR2]at hk;obtain⟨V,c,hk⟩:=hk;have k3:=dB _ _ _ _ _ hk;unfold oS at c;split at c;rename_i row hi;split at c;rename_i b7;cases c;obtain⟨id,ver,e,len,A,rfl⟩:=tN h1;obtain⟨u,E,rfl,hlen,b0,els,d,O,z,hr⟩:=kZ J hg A;obtain⟨f,D⟩:=Ab z hi;obtain⟨q1,q2⟩:=hr i row f hi D;have b9:=y.1;have a0:=J.hr.wn k id ver e len (by rw[hg];simp) A;have Z:∀H,H≠id->Sim.look (upd s.h id (.arr false ty e ver (els.set i (Sim.setL f o q)))) H=Sim.look s.h H:=fun H h=>by rw[Sim.look_upd];simp[h]
   have hW:∀H sl,C.w H=some sl->¬False->C.w H=some sl/\Sim.look (upd s.h id (.arr false ty e ver (els.set i (Sim.setL f o q)))) H=Sim.look s.h H:=fun H sl hw _=>⟨hw,Z H fun h=>by rw[h,a0]at hw;cases hw⟩
   obtain⟨m1,m2⟩:=rT J (po':=.tr (.nd ty e ks) (rows.set i (Sim.setL row o l)) Y) (ao:=.arr false ty e ver (els.set i (Sim.setL f o q))) hg A
    ⟨u,E,rfl,by simpa using hlen,b0,els.set i (Sim.setL f o q),d+1,by rw[Sim.look_upd];simp[O],LS.set z hi,fun R r1 d2 S hb=>by
     have old:∀{r2 L},rows[R]? =some r2->els[R]? =some L->∀j a b,r2[j]? =some a->L[j]? =some b->(R≠i\/j<o\/o+zs.length<=j)->TC C (Sim.look (upd s.h id (.arr false ty e ver (els.set i (Sim.setL f o q))))) lim s.n (d+1) id ks Y R j a b:=fun{r2 L} g1 g2 j a b M N g5=>by
      have:=((hr R r2 L g1 g2).2 j a b M N).mono (yX2 _) (.refl C) (B:=fun _=>False) (fun _ h=>h.elim) hW (fun h=>h);unfold TC at this ⊢;have hi:=fun x=>b5 R j x g5;cases hkd:eZ ks j with
      |none=>rw[hkd]at this;exact this
      |some t=>
       rw[hkd]at this;simp only at this ⊢;rcases this with⟨⟨x,a1⟩,a2⟩|⟨a1,a2⟩
       exact .inl ⟨⟨x,(hi x).2 a1⟩,fun x hx=>a2 x ((hi x).1 hx)⟩;exact .inr ⟨fun⟨x,hx⟩=>a1 ⟨x,(hi x).1 hx⟩,a2.up1⟩
     rw[zS2]at S hb;by_cases T:i=R;subst T;rw[yY2 rfl]at S hb;have P:=(yT2.1 hi).1;rw[yY2 P]at S;rw[yY2 (by omega)]at hb;cases S;cases hb;refine⟨by rw[mF,mF];exact q1,fun j a b M N=>?_⟩;by_cases X:o<=j/\j<o+zs.length;rw[rU (by omega) X.1 (by omega)]at M;rw[rU (by omega) X.1 (by omega)]at N;have:=b6 (j-o) a b M N;rw[show o+(j-o)=j by omega]at this;unfold Pf at this;unfold TC;cases hkd:eZ ks j with
     |none=>rw[hkd]at this;exact this
     |some t=>
      obtain⟨d5,e3,d4⟩:=t;rw[hkd]at this;simp only at this ⊢;obtain⟨rfl,this⟩:=this;rcases this with this|⟨a1,a2⟩
      exact .inl this;exact .inr ⟨a1,.inr ⟨[],rfl,.inl ⟨rfl,a2⟩⟩⟩
     rw[kJ (by omega)]at M;rw[kJ (by omega)]at N;exact old hi D j a b M N (by omega);rw[zB2 T]at S hb;exact⟨(hr R r1 d2 S hb).1,fun j a b M N=>old S hb j a b M N (.inl fun h=>T h.symm)⟩⟩ rfl
   refine⟨_,_,_,_,{v:=.undef,up:=some (id,.arr false ty e ver (els.set i (Sim.setL f o q)))},k3,?_,.undef,m1,.refl _,yX2 _,m2,fun he=>by cases he⟩;simp only[doOp,F,O];rw[yY2 ⟨by trivial,u,by omega⟩,D];simp only;rw[yY2 (by omega)];cases c;cases c;rw[zO2 W]at hk;exact aD hk
  |_=>exact aD hk
 |_=>exact aD hk
 exact aD hk
def uI1 {off} (a:cM C n h lim s) (f:LR (RV C) xs ys) (hk:fE (.fad off) xs h n K=some r):gQ C n h lim s (.fad off) ys K r:=by
 rcases xs with _|⟨x,_|⟨x2,t⟩⟩
 exact aD hk;obtain⟨y,_,rfl,h1,h2⟩:=f.inv_cons;rw[h2.inv_nil];cases x with
 |ref k o=>
  obtain⟨id,ver,e,len,c,rfl⟩:=kH h1;exact bC a rfl (.ref c) hk
 |ip cs=>
  have hk:iX off cs (fun cs=>K (.ip cs) h n)=some r:=hk;obtain⟨g,b⟩:=dZ _ _ _ _ hk;obtain⟨cs',rfl,hl⟩:=yC h1;have d:=hl.drop off;exact bC a rfl (.cl (.ip d.1 d.2)) b
 |zp cs=>
  have hk:iX off cs (fun cs=>K (.zp cs) h n)=some r:=hk;obtain⟨g,b⟩:=dZ _ _ _ _ hk;cases h1 with
  |cl h1=>cases h1
  |zp h1=>
   rcases h1 with⟨cs',rfl,hl⟩|⟨id,ver,i,o,ty,e,els,row,rfl,hz,hi,hol,hl⟩
   exact bC a rfl (.zp (.inl ⟨_,rfl,hl.drop off⟩)) b;exact bC a rfl (.zp (.inr ⟨id,ver,i,o+off,ty,e,els,row,rfl,hz,hi,by have:=hl.1;rw[cR3]at this;omega,by rw[<-bU3];exact hl.drop off⟩)) b
 |el k i o=>
  obtain⟨id,ver,e,len,c,rfl⟩:=tN h1;exact bC a rfl (.el c) hk
 |_=>exact aD hk
 exact aD hk
end
end Go.P
namespace Go.P
open Go.Sim (AV AO Hp fQ upd St IC IX Ex gC CK Wf Out doOp)
variable {lim n:Nat}
section
variable {R:Type} {C:Cx} {h:aJ} {s:Hp} {k:gC} {xs:List PV} {ys:List AV} {K:PV->aJ->Nat->Option R} {r:R}
def Pg {c}:∀(xs:aA PV) (j:Nat) (K:aA PV->aB R) (r:R),ztK c j xs K=some r->∃l,K l=some r/\l.length=xs.length/\∀(i:Nat) (a:PV),xs[i]? =some a->∃a',l[i]? =some a'/\(if j+i=c then ∃e r,a=.is e r/\a'=.zs 1 e r else a'=a)
 |[],j,K,r,h=>⟨[],h,rfl,fun i a h=>by simp at h⟩
 |x::xs,j,K,r,h=>by
  unfold ztK at h
  obtain⟨l,h1,h2,g⟩:=Pg xs (j+1) _ _ h
  cases hb:Nat.beq j c with
  |true=>
   rw[hb,zE2]at h1
   have k:=zM2 hb
   split at h1
   rename_i e m
   refine⟨_,h1,by simp[h2],fun i a b=>?_⟩
   cases i with
   |zero=>cases b;exact⟨_,rfl,by rw[yY2 (by omega)];exact⟨e,m,rfl,rfl⟩⟩
   |succ i=>
    obtain⟨a',d,f⟩:=g i a b
    exact⟨a',d,by rw[show j+(i+1)=j+1+i by omega];exact f⟩
   exact aD h1
  |false=>
   rw[hb,zP2]at h1
   have k:j≠c:=fun h=>by rw[h,Nat.beq_refl]at hb;cases hb
   refine⟨_,h1,by simp[h2],fun i a b=>?_⟩
   cases i with
   |zero=>cases b;exact⟨_,rfl,by rw[zB2 (by omega)]⟩
   |succ i=>
    obtain⟨a',d,f⟩:=g i a b
    exact⟨a',d,by rw[show j+(i+1)=j+1+i by omega];exact f⟩
def uJ1 {e} (o:cM C n h lim s) (O:LR (RV C) xs ys) (hk:fE (.iad e) xs h n K=some r):gQ C n h lim s (.iad e) ys K r:=by
 rcases xs with _|⟨x,_|⟨i,_|⟨x2,t⟩⟩⟩
 exact aD hk;exact aD hk;obtain⟨T,_,rfl,h1,h2⟩:=O.inv_cons;obtain⟨U,_,rfl,M,N⟩:=h2.inv_cons;rw[N.inv_nil];cases i with
 |v iv=>
  cases iv with
  |int kk i=>
   rw[gT M];cases x with
   |is e' rows=>
    have hk:(bif Nat.beq e' e then bP (mM rows i) (fun row=>K (.ip row) h n)else none)=some r:=hk;rw[aW]at hk;by_cases q:e'=e;subst q;simp only[aS3,zE2,bJ,yR2,mM]at hk;obtain⟨row,d,hk⟩:=hk;split at d;rename_i h0;rcases Vu h1 with⟨rows',rfl,hr⟩|⟨rfl,_⟩
    obtain⟨E,z,hl⟩:=hr.get d;exact bC o (by simp[doOp,Sim.intOf,h0,z]) (.cl (.ip hl.1 fun j x y a b=>(hl.2 j x y a b).weak)) hk;simp at d;cases d;rw[zO2 q]at hk;exact aD hk
   |zs dp e' rows=>
    replace hk:(bif Nat.beq e' e&&Nat.ble dp 1 then bP (mM rows i) (fun row=>K (.zp row) h n)else none)=some r:=hk;cases hb:(Nat.beq e' e&&Nat.ble dp 1)with
    |false=>rw[hb]at hk;exact aD hk
    |true=>
     simp only[hb,zE2,bJ,yR2,mM]at hk;simp only[yS2,aW,zD2]at hb;obtain⟨rfl,A⟩:=hb;have A:=zH2 A;obtain⟨row,d,hk⟩:=hk;split at d;rename_i h0;rcases yD (tO h1)with(⟨rows',rfl,hr⟩|⟨rfl,_⟩)|⟨d',id,ver,ty,els,rfl,rfl,hz,hl,hr⟩
     obtain⟨E,z,hl⟩:=hr.get d;exact bC o (by simp[doOp,Sim.intOf,h0,z]) (.zp (.inl ⟨_,rfl,hl⟩)) hk;simp at d;have hd:d'=0:=by omega
     subst hd;have p:=(yT2.1 d).1;have he:els[i.toNat]? =some els[i.toNat]:=by simp
     refine bC o (v:=.zp row) (y:=.ptr id ver i.toNat 0) ?_ (.zp (.inr ⟨id,ver,i.toNat,0,ty,_,els,els[i.toNat],rfl,hz,he,aB3 _,by rw[aO3];exact(hr.2 i.toNat row _ d (by rw[zR2,yY2 p];exact he)).mono fun _ _ h=>.inl h⟩)) hk;simp only[doOp,Sim.intOf];rw[yY2 ⟨by trivial,h0,by omega⟩,aQ3];cases d
   |zt c e' rows=>
    replace hk:(bif Nat.beq e' e then bP (mM rows i) (fun row=>ztK c 0 row fun row=>K (.zp row) h n)else none)=some r:=hk;cases hb:Nat.beq e' e with
    |false=>rw[hb]at hk;exact aD hk
    |true=>
     simp only[hb,zE2,bJ,yR2,mM]at hk;obtain rfl:=zM2 hb;obtain⟨row,d,hk⟩:=hk;split at d;rename_i h0;rcases Fj h1 with⟨rfl,_⟩|⟨id,ver,ty,els,rfl,hz,hle,hr⟩
     simp at d;have p:=(yT2.1 d).1;have he:els[i.toNat]? =some (els[i.toNat]'(by omega)):=by simp
     obtain⟨l,hk,hl,F⟩:=Pg row 0 _ _ hk;obtain⟨L,g2⟩:=hr i.toNat row _ d he;refine bC o (v:=.zp l) (y:=.ptr id ver i.toNat 0) ?_ (.zp (.inr ⟨id,ver,i.toNat,0,ty,_,els,els[i.toNat]'(by omega),rfl,hz,he,aB3 _,by rw[aO3];exact hl.trans L,fun j x y c1 c2=>?_⟩)) hk;simp only[doOp,Sim.intOf];rw[yY2 ⟨by trivial,h0,by omega⟩,aQ3];rw[aO3]at c2;have S:j<row.length:=by rw[<-hl];exact(yT2.1 c1).1
     obtain⟨a',H,D⟩:=F j row[j] (by simp);rw[c1]at H;cases H;have:=g2 j row[j] y (by simp) c2;rw[aQ3]at D;by_cases B:j=c;rw[yY2 B]at D this;obtain⟨J,r9,P,R⟩:=D;rw[P]at this;exact .inr ⟨1,J,r9,R,this⟩;rw[zB2 B]at D this;rw[D];exact .inl this;cases d
   |own k=>
    have hk:hK h k (fun ob=>match ob with
     |.lst _ e' _ rows=>bif Nat.beq e' e then bP (sI rows.length i) (fun i=>K (.el k i 0) h n)else none
     |.fl fs=>bif Nat.beq e 1 then jW1 i (fun i=>bif Nat.blt i fs.length then K (.el k i 0) h n else none)else none
     |.tr t rows _=>match t with|.nd _ e' _=>bif Nat.beq e' e then bP (sI rows.length i) (fun i=>K (.el k i 0) h n)else none
     |_=>none)=some r:=hk
    rw[gH,yR2]at hk;obtain⟨ob,hg,hk⟩:=hk;cases ob with
    |lst ty e2 g rows=>
     simp only[aW]at hk;by_cases q:e2=e;subst q;simp only[aS3,zE2,bJ,yR2,sI]at hk;obtain⟨m,w,u⟩:=hk;split at w;rename_i h0;cases w;rcases kI h1 with⟨id,ver,G,len,f,rfl⟩|⟨f,_⟩
     obtain⟨_,rfl,hlen,_⟩:=lC o hg f;refine bC (v:=.el k i.toNat 0) (y:=.ptr id ver i.toNat 0) o ?_ (.el f) u;simp only[doOp,Sim.intOf];rw[yY2 ⟨by trivial,h0.1,by omega⟩,aQ3];have:=mE o hg f;subst this;simp at h0;omega;cases w;rw[zO2 q]at hk;exact aD hk
    |fl fs=>
     simp only[aW]at hk;by_cases q:e=1;subst q;rw[aF3 rfl,zE2]at hk;cases i with
     |negSucc m=>exact aD hk
     |ofNat m=>
      cases p:Nat.blt m fs.length with
      |false=>simp only[jW1,p,zP2]at hk;exact aD hk
      |true=>
       simp only[jW1,p,zE2]at hk;rw[bB3]at p;rcases kI h1 with⟨id,ver,G,len,f,rfl⟩|⟨f,_⟩
       obtain⟨_,rfl,hlen,_⟩:=dE1 o hg f;refine bC (v:=.el k m 0) (y:=.ptr id ver m 0) o ?_ (.el f) hk;simp only[doOp,Sim.intOf];rw[yY2 ⟨by trivial,by simp,by simp;omega⟩,aQ3];rfl;exact(dF1 o hg f).elim
     rw[zO2 q]at hk;exact aD hk
    |tr t rows hs=>
     obtain⟨ty,e2,ks⟩:=t;simp only[aW]at hk;by_cases q:e2=e;subst q;simp only[aS3,zE2,bJ,yR2,sI]at hk;obtain⟨m,w,u⟩:=hk;split at w;rename_i h0;cases w;rcases kI h1 with⟨id,ver,G,len,f,rfl⟩|⟨f,_⟩
     obtain⟨_,_,rfl,hlen,_⟩:=kZ o hg f;refine bC (v:=.el k i.toNat 0) (y:=.ptr id ver i.toNat 0) o ?_ (.el f) u;simp only[doOp,Sim.intOf];rw[yY2 ⟨by trivial,h0.1,by omega⟩,aQ3];have:=(qB o hg f).1;subst this;simp at h0;omega;cases w;rw[zO2 q]at hk;exact aD hk
    |_=>exact aD hk
   |_=>exact aD hk
  |_=>exact aD hk
 |_=>exact aD hk
 exact aD hk
def Yp (e:cM C n h lim s) (f:LR (RV C) xs ys) (hk:fE .idxStr xs h n K=some r):gQ C n h lim s .idxStr ys K r:=by
 rcases xs with _|⟨x,_|⟨i,_|⟨x2,t⟩⟩⟩
 exact aD hk;exact aD hk;obtain⟨j,_,rfl,h1,h2⟩:=f.inv_cons;obtain⟨k,_,rfl,c,d⟩:=h2.inv_cons;rw[d.inv_nil];cases x with
 |v xv=>
  cases xv with
  |string b=>
   cases i with
   |v iv=>
    cases iv with
    |int kk i=>
     rw[gT h1,gT c];have hk:bP (tJ b i) (fun b=>K (.v (.int .u8 b)) h n)=some r:=hk;simp only[bJ,yR2,tJ]at hk;obtain⟨m,a,hk⟩:=hk;split at a;rename_i h0;simp only[yV2]at a;obtain⟨g,hb,rfl⟩:=a;refine bC e ?_ (.cl (.v _)) hk;simp only[doOp,Sim.intOf];rw[yY2 h0,hb];cases a
    |_=>exact aD hk
   |_=>exact aD hk
  |_=>cases i with
   |v iv=>cases iv<;>exact aD hk
   |_=>exact aD hk
 |_=>cases i with
  |v iv=>cases iv<;>exact aD hk
  |_=>exact aD hk
 exact aD hk
def kD1 {len e} {agg} (b:cM C n h lim s) (j:LR (RV C) xs ys) (hk:fE (.idxA len e agg) xs h n K=some r):gQ C n h lim s (.idxA len e agg) ys K r:=by
 rcases xs with _|⟨x,_|⟨i,_|⟨x2,t⟩⟩⟩
 exact aD hk;exact aD hk;obtain⟨k,_,rfl,h1,h2⟩:=j.inv_cons;obtain⟨l,_,rfl,f,g⟩:=h2.inv_cons;rw[g.inv_nil];cases x with
 |agg cs=>
  obtain⟨cs',rfl,hl⟩:=mD h1;cases i with
  |v iv=>
   cases iv with
   |int kk i=>
    rw[gT f];have hk:(bif agg then bP (tK cs i len e) (fun cs=>K (.agg cs) h n)else bP (xQ cs i len e) fun c=>K c h n)=some r:=hk;cases agg with
    |true=>
     simp only[zE2,bJ,yR2,tK]at hk;obtain⟨q,a,hk⟩:=hk;split at a;rename_i h0;cases a;have d:=(hl.drop (i.toNat*e)).take e;refine bC b ?_ (.agg d.1 d.2) hk;simp only[doOp,Sim.intOf];rw[yY2 ⟨h0.1,h0.2.1⟩];rfl;cases a
    |false=>
     simp only[zP2,bJ,yR2,xQ]at hk;obtain⟨q,a,hk⟩:=hk;split at a;rename_i h0;obtain⟨y,hy,hv⟩:=hl.get a;refine bC b ?_ hv hk;simp only[doOp,Sim.intOf];rw[yY2 h0];simp[hy];cases a
   |_=>exact aD hk
  |_=>exact aD hk
 |_=>cases i with
  |v iv=>cases iv<;>exact aD hk
  |_=>exact aD hk
 exact aD hk
def Yq {op:BinOp} {x y:PV} {K:PV->aB R} {r:R} (hk:tZ1 op x y K=some r):∃a b c,x=.v a/\y=.v b/\Sim.binS op a b=some c/\K (.v c)=some r:=by
 cases x with
 |v a=>
  cases y with
  |v b=>
   cases a with
   |int k a=>
    cases b with
    |int k' b=>
     have key:∀{z} {w},(op≠.shl/\op≠.shr)->(tZ1 op (.v (.int k a)) (.v (.int k' b)) K=bif kEq k k' then z else none)->(Sim.binS op (.int k a) (.int k' b)=if k=k' then w else none)->(z=some r->∃c,w=some c/\K (.v c)=some r)->∃a' b' c,PV.v (.int k a)=.v a'/\PV.v (.int k' b)=.v b'/\Sim.binS op a' b'=some c/\K (.v c)=some r:=by
      intro z w _ f e2 g;rw[f,Ku]at hk;by_cases e:k=k'
      .rw [aF3 e,zE2]at hk
       obtain⟨c,i,j⟩:=g hk;exact⟨_,_,c,rfl,rfl,by rw[e2,yY2 e];exact i,j⟩
      .rw [zO2 e]at hk;exact aD hk
     cases op
     case shl=>
      have hk:bP (if b<0 then none else some (k.wrap (a*2^min b.toNat k.bits))) (fun r=>K (.v (.int k r)))=some r:=hk;simp only[bJ,yR2]at hk;obtain⟨q,d,hk⟩:=hk;split at d
      .cases d
      .rename_i h0
       cases d;exact⟨_,_,_,rfl,rfl,by simp only[Sim.binS];rw[zB2 h0],hk⟩
     case shr=>
      have hk:bP (if b<0 then none else some (a.fdiv (2^min b.toNat k.bits))) (fun r=>K (.v (.int k r)))=some r:=hk;simp only[bJ,yR2]at hk;obtain⟨q,d,hk⟩:=hk;split at d
      .cases d
      .rename_i h0
       cases d;exact⟨_,_,_,rfl,rfl,by simp only[Sim.binS];rw[zB2 h0],hk⟩
     case add=>exact key (by simp) rfl rfl (fun h=>⟨_,rfl,h⟩)
     case sub=>exact key (by simp) rfl rfl (fun h=>⟨_,rfl,h⟩)
     case mul=>exact key (by simp) rfl rfl (fun h=>⟨_,rfl,h⟩)
     case and=>exact key (by simp) rfl rfl (fun h=>⟨_,rfl,h⟩)
     case or=>exact key (by simp) rfl rfl (fun h=>⟨_,rfl,h⟩)
     case xor=>exact key (by simp) rfl rfl (fun h=>⟨_,rfl,h⟩)
     case andNot=>exact key (by simp) rfl rfl (fun h=>⟨_,rfl,h⟩)
     case eql=>exact key (by simp) rfl rfl (fun h=>⟨_,rfl,h⟩)
     case neq=>exact key (by simp) rfl rfl (fun h=>⟨_,rfl,h⟩)
     case lss=>exact key (by simp) rfl rfl (fun h=>⟨_,rfl,h⟩)
     case leq=>exact key (by simp) rfl rfl (fun h=>⟨_,rfl,h⟩)
     case gtr=>exact key (by simp) rfl rfl (fun h=>⟨_,rfl,h⟩)
     case geq=>exact key (by simp) rfl rfl (fun h=>⟨_,rfl,h⟩)
     case quo=>exact key (z:=bP (if b=0 then none else some (k.wrap (a.tdiv b))) fun r=>K (.v (.int k r))) (by simp) rfl rfl (fun h=>by
      simp only[bJ,yR2]at h;obtain⟨q,d,h⟩:=h;split at d
      .cases d
      .rename_i h0;cases d;exact⟨_,by rw[zB2 h0],h⟩)
     case rem=>exact key (z:=bP (if b=0 then none else some (a.tmod b)) fun r=>K (.v (.int k r))) (by simp) rfl rfl (fun h=>by
      simp only[bJ,yR2]at h;obtain⟨q,d,h⟩:=h;split at d
      .cases d
      .rename_i h0;cases d;exact⟨_,by rw[zB2 h0],h⟩)
     all_goals (first|exact aD hk|exact key (z:=none) (w:=none) (by simp) rfl rfl (fun h=>aD h))
    |_=>exact aD hk
   |string a=>
    cases b with
    |string b=>
     cases op
     case add=>
      have hk:bP (if a.size+b.size<=2^62 then some (a++b)else none) (fun r=>K (.v (.string r)))=some r:=hk;simp only[bJ,yR2]at hk;obtain⟨q,d,hk⟩:=hk;split at d
      .rename_i h0
       cases d;exact⟨_,_,_,rfl,rfl,by simp only[Sim.binS];rw[yY2 h0],hk⟩
      .cases d
     all_goals first|exact aD hk|exact⟨_,_,_,rfl,rfl,rfl,hk⟩
    |_=>exact aD hk
   |_=>exact aD hk
  |_=>exact aD hk
 |_=>exact aD hk
def uK1 {op} (f:cM C n h lim s) (g:LR (RV C) xs ys) (hk:fE (.bin op) xs h n K=some r):gQ C n h lim s (.bin op) ys K r:=by
 rcases xs with _|⟨x,_|⟨i,_|⟨x2,t⟩⟩⟩
 exact aD hk;exact aD hk;obtain⟨j,_,rfl,h1,h2⟩:=g.inv_cons;obtain⟨k,_,rfl,d,e⟩:=h2.inv_cons;rw[e.inv_nil];obtain⟨a,b,c,rfl,rfl,hb,hk⟩:=Yq (K:=fun v=>K v h n) hk;rw[gT h1,gT d];exact bC f (by simp[doOp,hb]) (.cl (.v c)) hk;exact aD hk
def uL1 {neg} (e:cM C n h lim s) (f:LR (RV C) xs ys) (hk:fE (.eqB neg) xs h n K=some r):gQ C n h lim s (.eqB neg) ys K r:=by
 rcases xs with _|⟨x,_|⟨i,_|⟨x2,t⟩⟩⟩
 exact aD hk;exact aD hk;obtain⟨g,_,rfl,h1,h2⟩:=f.inv_cons;obtain⟨j,_,rfl,c,d⟩:=h2.inv_cons;rw[d.inv_nil];cases x with
 |v xv=>
  cases xv with
  |bool a=>
   cases i with
   |v iv=>
    cases iv with
    |bool b=>
     rw[gT h1,gT c];exact bC e rfl (.cl (.v _)) hk
    |_=>exact aD hk
   |_=>exact aD hk
  |_=>cases i with
   |v iv=>cases iv<;>exact aD hk
   |_=>exact aD hk
 |_=>cases i with
  |v iv=>cases iv<;>exact aD hk
  |_=>exact aD hk
 exact aD hk
def Is:∀(ks:aA CK) (as bs:aA PV) (K:Bool->aB R) (r:R) (c d:aA AV),jV1 ks as bs K=some r->LR (RV C) as c->LR (RV C) bs d->
  ∃b,Sim.cellsEq ks c d=some b/\K b=some r/\c.length=ks.length/\d.length=ks.length
 |[],[],[],K,r,c,d,h,ha,hb=>by
  rw[ha.inv_nil,hb.inv_nil]
  exact⟨true,rfl,h,rfl,rfl⟩
 |k::ks,a::as,b::bs,K,r,c,d,h,ha,hb=>by
  obtain⟨y,ys,rfl,h1,h2⟩:=ha.inv_cons
  obtain⟨z,zs,rfl,i,l⟩:=hb.inv_cons
  simp only[jV1]at h
  obtain⟨t,o,f,p,s⟩:=Is ks as bs _ r ys zs h h2 l
  have fin:∀q:Bool,Sim.cellEq k y z=some q->K (q&&t)=some r->∃b,Sim.cellsEq (k::ks) (y::ys) (z::zs)=some b/\K b=some r/\(y::ys).length=(k::ks).length/\(z::zs).length=(k::ks).length:=by
   intro q m hK;refine⟨q&&t,?_,hK,by simp[p],by simp[s]⟩;simp only[Sim.cellsEq,m];cases q;rfl;simpa using o
  split at f;rename_i j x n g;rw[Ku]at f;by_cases e:j=n;rw[aF3 e,zE2]at f;rw[gT h1,gT i]at fin ⊢;exact fin (x==g) (by simp[Sim.cellEq,e]) f;rw[zO2 e]at f;exact aD f;rename_i x g;rw[gT h1,gT i]at fin ⊢;exact fin (x==g) rfl f;rename_i x g;rw[gT h1,gT i]at fin ⊢;exact fin (x==g) rfl f;exact aD f
 |[],_::_,_,_,_,_,_,h,_,_=>aD h
 |[],[],_::_,_,_,_,_,h,_,_=>aD h
 |_::_,[],_,_,_,_,_,h,_,_=>aD h
 |_::_,_::_,[],_,_,_,_,h,_,_=>aD h
def uM1 {neg} {ks} (f:cM C n h lim s) (j:LR (RV C) xs ys) (hk:fE (.eqA neg ks) xs h n K=some r):gQ C n h lim s (.eqA neg ks) ys K r:=by
 rcases xs with _|⟨x,_|⟨i,_|⟨x2,t⟩⟩⟩
 exact aD hk;exact aD hk;obtain⟨p,_,rfl,h1,h2⟩:=j.inv_cons;obtain⟨q,_,rfl,d,e⟩:=h2.inv_cons;rw[e.inv_nil];cases x with
 |agg as=>
  cases i with
  |agg bs=>
   obtain⟨a,rfl,g⟩:=mD h1;obtain⟨c,rfl,hb⟩:=mD d;obtain⟨b,k,l,m,o⟩:=Is ks as bs _ r a c hk g hb;refine bC f ?_ (.cl (.v _)) l;simp only[doOp];rw[yY2 ⟨m,o⟩,k]
  |_=>exact aD hk
 |_=>cases i<;>exact aD hk
 exact aD hk
def xS1 {op} (a:cM C n h lim s) (b:LR (RV C) xs ys) (hk:fE (.un op) xs h n K=some r):gQ C n h lim s (.un op) ys K r:=by
 rcases xs with _|⟨x,_|⟨x2,t⟩⟩
 exact aD hk;obtain⟨y,_,rfl,h1,h2⟩:=b.inv_cons;rw[h2.inv_nil];cases x with
 |v xv=>
  rw[gT h1];cases op<;>cases xv<;>first|exact aD hk|exact bC a rfl (.cl (.v _)) hk
 |_=>cases op<;>exact aD hk
 exact aD hk
def dJ1 {k} (a:cM C n h lim s) (b:LR (RV C) xs ys) (hk:fE (.convI k) xs h n K=some r):gQ C n h lim s (.convI k) ys K r:=by
 rcases xs with _|⟨x,_|⟨x2,t⟩⟩
 exact aD hk;obtain⟨y,_,rfl,h1,h2⟩:=b.inv_cons;rw[h2.inv_nil];cases x with
 |v xv=>
  rw[gT h1];cases xv<;>first|exact aD hk|exact bC a rfl (.cl (.v _)) hk
 |_=>exact aD hk
 exact aD hk
def Ph (b:ByteArray):RR (byteRows b) (Sim.byteRows b):=by
 unfold byteRows Sim.byteRows
 induction b.data.toList with
 |nil=>exact .nil
 |cons a as ih=>exact .cons (.cons (.v _) .nil) ih
def uN1 {t} (a:cM C n h lim s) (c:LR (RV C) xs ys) (hk:fE (.s2b t) xs h n K=some r):gQ C n h lim s (.s2b t) ys K r:=by
 rcases xs with _|⟨x,_|⟨x2,t⟩⟩
 exact aD hk;obtain⟨y,_,rfl,h1,h2⟩:=c.inv_cons;rw[h2.inv_nil];cases x with
 |v xv=>
  rw[gT h1];cases xv with
  |string b=>exact bC a rfl (.cl (Ph b).is) hk
  |_=>exact aD hk
 |_=>exact aD hk
 exact aD hk
def kE1 {f} {m} (g:cM C n h lim s) (e:LR (RV C) xs ys) (hk:fE (.mkfn f m) xs h n K=some r):gQ C n h lim s (.mkfn f m) ys K r:=by
 cases f with
 |func f=>
  have hk:qJ m xs (fun a=>iX m xs fun b=>K (.fn f a b) h n)=some r:=by
   rcases xs with _|⟨a,_|⟨b,_|⟨c,t⟩⟩⟩<;>exact hk
  obtain⟨_,i⟩:=oY _ _ _ _ hk;obtain⟨_,j⟩:=dZ _ _ _ _ i;have d:=e.take m;have hb:=e.drop m;refine bC g ?_ (.fn d.1 hb.1 d.2 hb.2) j;rcases ys with _|⟨a,_|⟨b,_|⟨c,t⟩⟩⟩<;>rfl
 |_=>rcases xs with _|⟨a,_|⟨b,_|⟨c,t⟩⟩⟩<;>exact aD hk
def dK1 (a:cM C n h lim s) (c:LR (RV C) xs ys) (hk:fE .mkmap xs h n K=some r):gQ C n h lim s .mkmap ys K r:=by
 rcases xs with _|⟨x,t⟩
 have hk:K (.map n) ((n,.mp [])::h) (n+1)=some r:=hk;rw[c.inv_nil];have b:=mO a (.atp s.n 0 0 1);obtain⟨d,f,g⟩:=qA a (po:=.mp []) (ao:=.map []) (ver:=0) (e:=0) (len:=1) ⟨a.lim,by omega,[],by rw[eK,yY2 rfl],rfl,fun j x y h=>by simp at h⟩;exact⟨_,_,_,_,{v:=.map s.n,new:=some (.map [])},hk,rfl,.map (mP C n _),d,b,by omega,f,fun _=>g⟩;exact aD hk
def kF1 {ty} {e b} {zero} (d:cM C n h lim s) (o:LR (RV C) xs ys) (hk:fE (.mksl ty e b zero) xs h n K=some r):gQ C n h lim s (.mksl ty e b zero) ys K r:=by
 rcases xs with _|⟨x,_|⟨i,_|⟨x2,t⟩⟩⟩
 exact aD hk;exact aD hk;obtain⟨w,_,rfl,h1,h2⟩:=o.inv_cons;obtain⟨y,_,rfl,k,m⟩:=h2.inv_cons;rw[m.inv_nil];cases x with
 |v xv=>
  cases xv with
  |int k1 l=>
   cases i with
   |v iv=>
    cases iv with
    |int k2 c=>
     rw[gT h1,gT k];have hk:(bif dY ty then none else vW (zero.map .v) (fun z=>bP (oT l c z) fun rows=>K (.own n) ((n,.lst ty e true rows)::h) (n+1)))=some r:=hk;cases hfx:dY ty with
     |true=>rw[hfx]at hk;exact aD hk
     |false=>
     rw[hfx,zP2]at hk;have j:zD ty=ty:=by simp[zD,hfx]
     simp only[rS,bJ,yR2,oT]at hk;obtain⟨rows,g,hk⟩:=hk;split at g;rename_i h0;cases g;have f:=mO d (.atp s.n 0 e l.toNat);have a:l.toNat<=c.toNat:=by omega
     obtain⟨p,q,u⟩:=qA d (po:=.lst ty e true (List.replicate l.toNat (zero.map .v))) (ao:=.arr false ty e 0 (List.replicate c.toNat (Sim.zeroRow zero))) (ver:=0) (e:=e) (len:=l.toNat)
      ⟨d.lim,by omega,rfl,by simp,_,by rw[eK,yY2 rfl,j],by
       rw[List.length_replicate,List.take_replicate,bL3 a];exact RR.replicate (LR.zeroP zero) _,⟨by simpa using a,.zero zero⟩,fun h=>by cases h⟩
     refine⟨_,_,_,_,{v:=.sl e s.n 0 0 l.toNat none,new:=some (.arr false ty e 0 (List.replicate c.toNat (Sim.zeroRow zero)))},hk,?_,.own (mP C n _),p,f,by omega,q,fun _=>u⟩;simp only[doOp,Sim.intOf];rw[yY2 h0];cases g
    |_=>exact aD hk
   |_=>exact aD hk
  |_=>cases i with
   |v iv=>cases iv<;>exact aD hk
   |_=>exact aD hk
 |_=>cases i with
  |v iv=>cases iv<;>exact aD hk
  |_=>exact aD hk
 exact aD hk
end
end Go.P
namespace Go.P
open Go.Sim (AV AO Hp fQ upd St IC IX Ex gC CK Wf Out doOp)
variable {lim n:Nat}
section
variable {R:Type} {C:Cx} {h:aJ} {s:Hp} {k:gC} {xs:List PV} {ys:List AV} {K:PV->aJ->Nat->Option R} {r:R}
def Kx {lo hi} {len} {bs} {K} {a} (b:LR (RV C) bs a) (hk:Cf lo hi len bs K=some r):∃l q,Sim.bounds lo hi len a=some (l,q)/\K l q=some r:=by
 unfold Cf at hk;split at hk;rw[b.inv_nil];exact⟨_,_,rfl,hk⟩;obtain⟨y,_,rfl,h1,h2⟩:=b.inv_cons;rw[h2.inv_nil,gT h1];exact⟨_,_,rfl,hk⟩;obtain⟨y,_,rfl,h1,h2⟩:=b.inv_cons;rw[h2.inv_nil,gT h1];exact⟨_,_,rfl,hk⟩;obtain⟨y,_,rfl,h1,h2⟩:=b.inv_cons;obtain⟨e,_,rfl,c,d⟩:=h2.inv_cons;rw[d.inv_nil,gT h1,gT c];exact⟨_,_,rfl,hk⟩;exact aD hk
theorem uO1 {e} {lo hi mx} (k:cM C n h lim s) (o:LR (RV C) xs ys) (hk:fE (.slc e lo hi mx) xs h n K=some r):gQ C n h lim s (.slc e lo hi mx) ys K r:=by
 rcases xs with _|⟨x,bs⟩
 exact aD hk;obtain⟨y,a,rfl,h1,h2⟩:=o.inv_cons
 have hk:(bif mx then none else match(generalizing:=false) x with
  |.is e' rows=>bif Nat.beq e' e then Cf lo hi rows.length bs (fun l r=>bP (qL rows l r) fun rows=>K (.is e rows) h n)else none
  |_=>none)=some r:=by
  rcases bs with _|⟨b,_|⟨c,t⟩⟩<;>exact hk
 cases mx with
 |true=>exact aD hk
 |false=>
  rw[zP2]at hk;cases x with
  |is e' rows=>
   simp only[aW]at hk;by_cases m:e'=e;subst m;rw[aF3 rfl,zE2]at hk;obtain⟨l,q,hb,hk⟩:=Kx h2 hk;simp only[bJ,yR2,qL]at hk;obtain⟨j,f,hk⟩:=hk;split at f;rename_i h0;cases f;rcases tM h1 with⟨rows',rfl,hr⟩|⟨rfl,hy⟩
   have hlen:=hr.1;refine bC k ?_ (.cl ((hr.drop l.toNat).take (q.toNat-l.toNat)).is) hk;have d:Sim.bounds lo hi rows'.length a=some (l,q):=by rw[<-hlen];exact hb
   have:Sim.sliceOp (Sim.look s.h) e' lo hi false (.is e' rows'::a)=some (.is e' ((rows'.drop l.toNat).take (q.toNat-l.toNat))):=by
    simp only[Sim.sliceOp];simp only[zG2,aL3,d];rw[yY2 ⟨by trivial,h0.1,h0.2.1,by rw[<-hlen];exact h0.2.2⟩]
   rcases a with _|⟨b,_|⟨c,t⟩⟩<;>simp only[doOp,this,zW2];have g:l=0:=by simp at h0;omega
   have i:q=0:=by simp at h0;omega
   subst g;subst i;have d:Sim.bounds lo hi 0 a=some (0,0):=hb
   have:Sim.sliceOp (Sim.look s.h) e' lo hi false (y::a)=some y:=by
    subst hy;simp[Sim.sliceOp,d]
   refine bC (y:=y) k ?_ ?_ hk;rcases a with _|⟨b,_|⟨c,t⟩⟩<;>simp only[doOp,this,zW2]
   grind
   cases f
   grind
  |_=>exact aD hk
def It {k} {a b} {a' b'} (c:RC false a a') (hb:RC false b b') {q} (h:xR k a b=some q):Sim.cellEq k a' b'=some q:=by
 unfold xR at h;split at h;cases c;cases hb;exact h;cases c;cases hb;exact h;cases c;cases hb;exact h;cases h
def wE:∀{ks} {as bs} {c d},LR (RC false) as c->LR (RC false) bs d->∀{q},oU ks as bs=some q->Sim.cellsEq ks c d=some q
 |[],[],[],c,d,ha,hb,q,h=>by rw[ha.inv_nil,hb.inv_nil];exact h
 |k::ks,a::as,b::bs,c,d,ha,hb,q,h=>by
  obtain⟨y,ys,rfl,h1,h2⟩:=ha.inv_cons
  obtain⟨z,zs,rfl,e,f⟩:=hb.inv_cons
  simp only[oU]at h
  simp only[Sim.cellsEq]
  split at h
  rename_i he;rw[It h1 e he];exact wE h2 f h
  rename_i he;rw[It h1 e he];exact h
  cases h
 |[],_::_,_,_,_,_,_,_,h=>by cases h
 |[],[],_::_,_,_,_,_,_,h=>by cases h
 |_::_,[],_,_,_,_,_,_,h=>by cases h
 |_::_,_::_,[],_,_,_,_,_,h=>by cases h
def Tb {p} {cs} {y} (h:RC p (.agg cs) y):∃cs',y=.agg cs'/\LR (RC false) cs cs':=by
 cases h with|agg a b=>exact⟨_,rfl,a,b⟩
def Pi {agg} {ks} {a b} {a' b'} (c:RC false a a') (hb:RC false b b') {q} (h:zT agg ks a b=some q):Sim.keyEq agg ks a' b'=some q:=by
 unfold zT at h;unfold Sim.keyEq;cases agg with
 |true=>
  simp only[zT2]at h ⊢;split at h;obtain⟨x,rfl,h1⟩:=Tb c;obtain⟨y,rfl,h2⟩:=Tb hb;simp only;split at h;rename_i hc;rw[yY2 ⟨by rw[<-h1.1];exact hc.1,by rw[<-h2.1];exact hc.2⟩];exact wE h1 h2 h;cases h;cases h
 |false=>
  simp only[zG2,aL3]at h ⊢;exact wE (.cons c .nil) (.cons hb .nil) h
def ER.nil:ER [] []:=⟨rfl,fun j x y h=>by simp at h⟩
def ER.inv_cons {x} {es} {es'} (h:ER (x::es) es'):∃y t,es'=y::t/\RC false x.1 y.1/\RC false x.2 y.2/\ER es t:=by
 cases es' with
 |nil=>have:=h.1;simp at this
 |cons y t=>exact⟨y,t,rfl,(h.2 0 x y rfl rfl).1,(h.2 0 x y rfl rfl).2,by have:=h.1;simpa using this,fun j a b c hb=>h.2 (j+1) a b (by simpa using c) (by simpa using hb)⟩
def Ch {agg} {ks} {k} {k'} (hk:RC false k k'):∀{es} {es'} {i} {o},ER es es'->xS agg ks k es i=some o->
  ∃o',Sim.findKey agg ks k' es' i=some o'/\((o=none/\o'=none)\/∃j x y,o=some (j,x)/\o'=some (j,y)/\RC false x y)
 |[],es',i,o,he,h=>by
  have:es'=[]:=by have:=he.1;simpa using this.symm
  subst this
  simp only[xS,yZ2]at h
  exact⟨none,rfl,.inl ⟨h.symm,rfl⟩⟩
 |(a,x)::es,es',i,o,he,h=>by
  obtain⟨⟨b,y⟩,t,rfl,h1,h2,d⟩:=he.inv_cons
  simp only[xS]at h
  simp only[Sim.findKey]
  split at h
  rename_i c
  rw[Pi hk h1 c]
  cases h
  exact⟨_,rfl,.inr ⟨i,x,y,rfl,rfl,h2⟩⟩
  rename_i c
  rw[Pi hk h1 c]
  exact Ch hk d h
  cases h
def qP {agg} {ks} {k} {k'} (hk:RC false k k') (h:zU agg ks k=true):Sim.keyOK agg ks k'=true:=by
 unfold zU at h;split at h;obtain⟨cs',rfl,hl⟩:=Tb hk;simp only[yS2,bH3]at h;simp[Sim.keyOK,<-hl.1,h.2];cases hk;simp only[zK2]at h;subst h;rfl;cases h
def Iu {x} {y} (h:RV C x y):∀{d},eY d x=true->RC false x y:=by
 induction h with
 |cl h=>intro d _;exact h
 |fn h1 h2 v1 v2 i1 i2=>
  intro d hd;cases d with
  |zero=>simp[eY]at hd
  |succ d=>
   simp only[eY,yS2,yW2]at hd;exact .fn h1 h2 (fun j x y a b=>i1 j x y a b (hd.1 x (zC2 a))) (fun j x y a b=>i2 j x y a b (hd.2 x (zC2 a)))
 |agg hl hc ih=>
  intro d hd;cases d with
  |zero=>simp[eY]at hd
  |succ d=>
   simp only[eY,yW2]at hd;exact .agg hl (fun j x y a b=>ih j x y a b (hd x (zC2 a)))
 |tup hl hc ih=>
  intro d hd;cases d with
  |zero=>simp[eY]at hd
  |succ d=>
   simp only[eY,yW2]at hd;exact .tup hl (fun j x y a b=>ih j x y a b (hd x (zC2 a)))
 |_=>intro d hd;cases d<;>simp[eY]at hd
def Yr {agg ok} {ks} {zero} (g:cM C n h lim s) (D:LR (RV C) xs ys) (hk:fE (.lookup agg ks zero ok) xs h n K=some r):gQ C n h lim s (.lookup agg ks zero ok) ys K r:=by
 rcases xs with _|⟨m,_|⟨k,_|⟨x2,t⟩⟩⟩
 exact aD hk;exact aD hk;obtain⟨w,_,rfl,h1,h2⟩:=D.inv_cons;obtain⟨E,_,rfl,A,B⟩:=h2.inv_cons;rw[B.inv_nil];cases hz:zero with
 |v z=>
  subst hz
  have key:∀es es',ER es es'->Sim.entsOf (Sim.look s.h) w=some es'->
    (bif eY 2 k then(bif ok then bP (xT agg ks (.v z) k es) (fun r=>K (.tup [r.1,.v (.bool r.2)]) h n)else bP (vX agg ks (.v z) k es) fun r=>K r h n)else none)=some r->gQ C n h lim s (.lookup agg ks (.v z) ok) [w,E] K r:=by
   intro es es' he f hk;cases hcl:eY 2 k with
   |false=>rw[hcl]at hk;exact aD hk
   |true=>
   rw[hcl,zE2]at hk;have b:=Iu A hcl;cases ok with
   |true=>
    simp only[zE2,bJ,yR2,xT]at hk;obtain⟨q,d,hk⟩:=hk;split at d;rename_i c;simp only[yV2]at d;obtain⟨o,p,rfl⟩:=d;obtain⟨o',i,u⟩:=Ch b he p;rcases u with⟨rfl,rfl⟩|⟨j,x,y,rfl,rfl,hxy⟩
    refine bC g (y:=.tup [.v z,.v (.bool false)]) ?_ ?_ hk;simp[doOp,qP b c,f,i];exact .tup rfl (LR.cons (.cl (.v z)) (.cons (.cl (.v _)) .nil)).2;refine bC g (y:=.tup [y,.v (.bool true)]) ?_ ?_ hk;simp[doOp,qP b c,f,i];exact .tup rfl (LR.cons (.cl hxy) (.cons (.cl (.v _)) .nil)).2;cases d
   |false=>
    simp only[zP2,bJ,yR2,vX]at hk;obtain⟨q,d,hk⟩:=hk;split at d;rename_i c;simp only[yV2]at d;obtain⟨o,p,rfl⟩:=d;obtain⟨o',i,u⟩:=Ch b he p;rcases u with⟨rfl,rfl⟩|⟨j,x,y,rfl,rfl,hxy⟩
    refine bC g (y:=.v z) ?_ (.cl (.v z)) hk;simp[doOp,qP b c,f,i];refine bC g (y:=y) ?_ (.cl hxy) hk;simp[doOp,qP b c,f,i];cases d
  unfold fE at hk;simp only at hk;cases m with
  |im es=>
   obtain⟨es',rfl,he⟩:=Pd h1;exact key es es' he rfl hk
  |map j=>
   simp only[gH,yR2]at hk;obtain⟨ob,hg,hk⟩:=hk;cases ob with
   |mp es=>
    obtain⟨id,ver,e,len,l,rfl⟩:=zY h1;obtain⟨_,es',f,he⟩:=Pe g hg l;exact key es es' he.er (by simp[Sim.entsOf,f]) hk
   |_=>exact aD hk
  |zm es=>
   rcases rO1 h1 with⟨id,es',rfl,l,he⟩|⟨rfl,rfl⟩
   exact key es es' he.er (by simp[Sim.entsOf,(g.hr.zr id _ l).1]) hk;exact key [] [] ⟨rfl,fun j x y a=>by simp at a⟩ rfl hk
  |_=>exact aD hk
 |_=>subst hz;exact aD hk
 exact aD hk
def rQ1 {x} {y} (h:RV C x y) (hp:Sv x=true):RK x y:=by
 cases x with
 |agg cs=>
  obtain⟨cs',rfl,hl⟩:=mD h;exact .inr ⟨cs,cs',rfl,rfl,hl.plain hp⟩
 |_=>exact .inl (h.plain hp)
theorem dL1 {agg} {ks} (D:cM C n h lim s) (R:LR (RV C) xs ys) (hk:fE (.mapup agg ks) xs h n K=some r):gQ C n h lim s (.mapup agg ks) ys K r:=by
 rcases xs with _|⟨m,_|⟨k,_|⟨x,_|⟨x2,t⟩⟩⟩⟩
 exact aD hk;exact aD hk;exact aD hk;obtain⟨V,_,rfl,h1,h2⟩:=R.inv_cons;obtain⟨w,_,rfl,J,L⟩:=h2.inv_cons;obtain⟨y,_,rfl,M,N⟩:=L.inv_cons;rw[N.inv_nil];cases m with
 |map j=>
  have hk:hK h j (fun ob=>match ob with
   |.mp es=>bif Sv k&&Sv x then bP (Ey agg ks k x es) fun es=>gA h j (.mp es) fun h=>K .undef h n else none
   |_=>none)=some r:=hk
  simp only[gH,yR2]at hk;obtain⟨ob,hg,hk⟩:=hk;cases ob with
  |mp es=>
   by_cases g:(Sv k&&Sv x)=true;simp only[g,zE2,bJ,yR2,Ey]at hk;simp only[yS2]at g;obtain⟨d,hp,hk⟩:=hk;have H:=dB _ _ _ _ _ hk;obtain⟨id,ver,e,len,z,rfl⟩:=zY h1;obtain⟨f,es',B,he⟩:=Pe D hg z;have F:=(D.hr.lt (by rw[hg];simp) z).2;have G:=rQ1 J g.1;have S:=rQ1 M g.2;have q:=G.rc;split at hp;rename_i u;simp only[yV2]at hp;obtain⟨o,P,rfl⟩:=hp;obtain⟨o',q1,q2⟩:=Ch q he.er P
   have fin:∀d c,EM d c->K .undef (cC h j (.mp d)) n=some r->doOp (Sim.look s.h) lim s.n (.mapup agg ks) [.map id,w,y]=some {v:=.undef,up:=some (id,.map c)}->gQ C n h lim s (.mapup agg ks) [.map id,w,y] K r:=by
    intro d c E A hd;obtain⟨T,U⟩:=rT D (po':=.mp d) (ao:=.map c) hg z ⟨f,F,c,by rw[Sim.look_upd];simp[B],E⟩ rfl;exact⟨_,_,_,_,_,A,hd,.undef,T,.refl _,yX2 _,U,fun O=>by cases O⟩
   rcases q2 with⟨rfl,rfl⟩|⟨i,x0,y0,rfl,rfl,hxy⟩
   refine fin _ (es'++[(w,y)]) ⟨by simp[he.1],fun i a b p hb=>?_⟩ H ?_;rw[aV3]at p hb;rw[<-he.1]at hb;split at p;rename_i hi;rw[yY2 hi]at hb;exact he.2 i a b p hb
   grind
   simp only[doOp,B];rw[yY2 ⟨f,qP q u⟩,q1];refine fin _ (es'.set i (w,y)) ⟨by simp[he.1],fun l a b p hb=>?_⟩ H ?_;rw[zS2]at p hb;split at p
   grind
   rename_i hi;rw[zB2 hi]at hb;exact he.2 l a b p hb;simp only[doOp,B];rw[yY2 ⟨f,qP q u⟩,q1];cases hp
   grind
  |_=>exact aD hk
 |_=>exact aD hk
 exact aD hk
def uP1 {kd} (a:cM C n h lim s) (j:LR (RV C) xs ys) (hk:fE (.len kd) xs h n K=some r):gQ C n h lim s (.len kd) ys K r:=by
 rcases xs with _|⟨x,_|⟨x2,t⟩⟩
 exact aD hk;obtain⟨y,_,rfl,h1,h2⟩:=j.inv_cons;rw[h2.inv_nil];unfold fE at hk;simp only[aW]at hk;split at hk;rename_i e rows;by_cases b:kd=0;subst b;simp only[aS3,zE2,bJ,yU2]at hk;rcases Vu h1 with⟨rows',rfl,hr⟩|⟨rfl,rfl|rfl⟩
 exact bC a (by simp[doOp,<-hr.1]) (.cl (.v _)) hk;exact bC a rfl (.cl (.v _)) hk;exact bC a rfl (.cl (.v _)) hk;rw[zO2 b]at hk;exact aD hk;rename_i k;by_cases b:kd=0;subst b;simp only[aS3,zE2,gH,yR2]at hk;obtain⟨ob,hg,hk⟩:=hk;cases ob with
 |lst ty e g rows=>
  simp only[bJ,yU2]at hk;rcases kI h1 with⟨id,ver,i,len,f,rfl⟩|⟨f,hy⟩
  obtain⟨_,_,hlen,_⟩:=lC a hg f;subst hlen;exact bC a rfl (.cl (.v _)) hk;have:=mE a hg f;subst this;rcases hy with rfl|rfl;exact bC a rfl (.cl (.v _)) hk;exact bC a rfl (.cl (.v _)) hk
 |lz ty e dp rows=>
  simp only[bJ,yU2]at hk;rcases kI h1 with⟨id,ver,i,len,f,rfl⟩|⟨f,hy⟩
  obtain⟨_,_,_,hlen,_⟩:=Bh a hg f;subst hlen;exact bC a rfl (.cl (.v _)) hk;have:=Aa a hg f;subst this;rcases hy with rfl|rfl;exact bC a rfl (.cl (.v _)) hk;exact bC a rfl (.cl (.v _)) hk
 |fl fs=>
  rcases kI h1 with⟨id,ver,i,len,f,rfl⟩|⟨f,hy⟩
  obtain⟨_,_,hlen,_⟩:=dE1 a hg f;subst hlen;exact bC a rfl (.cl (.v _)) hk;exact(dF1 a hg f).elim
 |tr t rows hs=>
  obtain⟨ty,e2,ks⟩:=t;simp only[bJ,yU2]at hk;rcases kI h1 with⟨id,ver,i,len,f,rfl⟩|⟨f,hy⟩
  obtain⟨_,_,_,hlen,_⟩:=kZ a hg f;subst hlen;exact bC a rfl (.cl (.v _)) hk;have:=(qB a hg f).1;subst this;rcases hy with rfl|rfl;exact bC a rfl (.cl (.v _)) hk;exact bC a rfl (.cl (.v _)) hk
 |_=>exact aD hk
 rw[zO2 b]at hk;exact aD hk;rename_i d e rows;by_cases b:kd=0;subst b;simp only[aS3,zE2,bJ,yU2]at hk;rcases yD (tO h1)with(⟨rows',rfl,hr⟩|⟨rfl,rfl⟩)|⟨d',id,ver,ty,els,_,rfl,_,_,_⟩
 exact bC a (by simp[doOp,<-hr.1]) (.cl (.v _)) hk;exact bC a rfl (.cl (.v _)) hk;exact bC a rfl (.cl (.v _)) hk;rw[zO2 b]at hk;exact aD hk;rename_i c e rows;by_cases b:kd=0;subst b;simp only[aS3,zE2,bJ,yU2]at hk;rcases Fj h1 with⟨rfl,rfl⟩|⟨id,ver,ty,els,rfl,_⟩
 exact bC a rfl (.cl (.v _)) hk;exact bC a rfl (.cl (.v _)) hk;rw[zO2 b]at hk;exact aD hk;by_cases b:kd=0;subst b;rw[gT h1];exact bC a rfl (.cl (.v _)) hk;rw[zO2 b]at hk;exact aD hk;by_cases b:kd=1;subst b;rw[gT h1];exact bC a rfl (.cl (.v _)) hk;rw[zO2 b]at hk;exact aD hk;exact aD hk;exact aD hk
def Pj {mx} {k}:∀{xs} {ys} {a} {K},LR (RV C) xs ys->mnK mx k a xs K=some r->∃b,(if mx then Sim.foldMx k a ys else Sim.foldMn k a ys)=some b/\K b=some r
 |[],ys,a,K,hx,h=>by
  rw[hx.inv_nil]
  cases mx<;>exact⟨a,rfl,h⟩
 |x::xs,ys,a,K,hx,h=>by
  obtain⟨y,g,rfl,h1,h2⟩:=hx.inv_cons
  cases x with
  |v xv=>
   cases xv with
   |int k' b=>
    have h:(bif kEq k k' then mnK mx k (bif mx then(if b>a then b else a)else(if b<a then b else a)) xs K else none)=some r:=h
    rw[Ku]at h
    by_cases e:k=k'
    rw[aF3 e,zE2]at h
    obtain⟨c,d,f⟩:=Pj h2 h
    refine⟨c,?_,f⟩
    rw[gT h1]
    cases mx
    simpa[Sim.foldMn,e]using d
    simpa[Sim.foldMx,e]using d
    rw[zO2 e]at h;exact aD h
   |_=>exact aD h
  |_=>exact aD h
def xT1 (f:cM C n h lim s) (g:LR (RV C) xs ys) (hk:fE .mx xs h n K=some r):gQ C n h lim s .mx ys K r:=by
 rcases xs with _|⟨x,t⟩
 exact aD hk;obtain⟨y,d,rfl,h1,h2⟩:=g.inv_cons
 have hk:(match(generalizing:=false) x with
  |.v (.int k a)=>mnK true k a t (fun r=>K (.v (.int k r)) h n)
  |_=>none)=some r:=by rcases t with _|⟨b,_|⟨c,t⟩⟩<;>exact hk
 cases x with
 |v xv=>
  cases xv with
  |int k a=>
   obtain⟨b,e,i⟩:=Pj h2 hk;rw[gT h1];refine bC f ?_ (.cl (.v _)) i;simp only[zT2]at e;rcases d with _|⟨b,_|⟨c,t⟩⟩<;>simp only[doOp,e,zW2]
  |_=>exact aD hk
 |_=>exact aD hk
def uQ1 {i} (b:cM C n h lim s) (d:LR (RV C) xs ys) (hk:fE (.ext i) xs h n K=some r):gQ C n h lim s (.ext i) ys K r:=by
 rcases xs with _|⟨x,_|⟨x2,t⟩⟩
 exact aD hk;obtain⟨y,_,rfl,h1,h2⟩:=d.inv_cons;rw[h2.inv_nil];cases x with
 |tup vs=>
  have hk:iX i vs (fun vs=>match vs with
   |v::_=>K v h n
   |[]=>none)=some r:=hk
  obtain⟨e,a⟩:=dZ _ _ _ _ hk;obtain⟨cs',rfl,hl⟩:=wA h1;cases hd:vs.drop i with
  |nil=>rw[hd]at a;exact aD a
  |cons c t=>
   rw[hd]at a;obtain⟨y,hy,hv⟩:=hl.get (zZ hd);exact bC b (by simp[doOp,hy]) hv a
 |_=>exact aD hk
 exact aD hk
end
end Go.P
namespace Go.P
open Go.Sim (AV AO Hp fQ upd St IC IX Ex gC CK Wf Out doOp)
variable {lim n:Nat}
def yE {α}:∀(l:aA α) (o:Nat) (cs:aA α),o+cs.length<=l.length->Sim.setL l o cs=l.take o++cs++l.drop (o+cs.length)
 |[],o,cs,h=>by
  have h1:cs=[]:=by
   cases cs with
   |nil=>rfl
   |cons a as=>simp at h
  subst h1;simp[Sim.setL]
 |a::l,0,[],h=>by simp[Sim.setL]
 |a::l,0,c::cs,h=>by
  simp only[Sim.setL,List.set_cons_zero];rw[qN,yE l 0 cs (by simp at h ⊢;omega)];simp
 |a::l,o+1,cs,h=>by
  rw[qN,yE l o cs (by simp at h ⊢;omega)];simp[Nat.add_right_comm]
def uI (e:Nat):∀(m i:Nat) (cells xs:aA AV) (a:aA (aA AV)),cells.length=(i+m)*e->xs.length=m->a.length=m->
  (∀(j:Nat) (x:AV),xs[j]? =some x->∃cs,x.cells=some cs/\cs.length=e/\a[j]? =some cs)->
  Sim.fillParts cells ((List.range' i m).map fun i=>(i*e,e)) xs=some (cells.take (i*e)++a.flatten)
 |0,i,cells,xs,a,h1,h2,h3,h4=>by
  have g:xs=[]:=by simpa using h2
  have e2:a=[]:=by simpa using h3
  subst g;subst e2
  simp only[List.range'_zero,cX3,Sim.fillParts,List.flatten_nil,bJ3]
  rw[aK3 (by rw[h1];simp)]
 |m+1,i,cells,xs,a,h1,h2,h3,h4=>by
  match xs,a,h2,h3 with
  |x::xs,cs0::a,h2,h3=>
   obtain⟨cs,k,d,f⟩:=h4 0 x rfl
   simp at f
   subst f
   simp only[List.range'_succ,bQ3,Sim.fillParts,k]
   have b:i*e+e<=cells.length:=by
    rw[h1];have:(i+1)*e<=(i+(m+1))*e:=aH3 _ (by omega);rw[aX3,Nat.one_mul]at this;exact this
   rw[yY2 ⟨d,b⟩];have hs:=yE cells (i*e) cs0 (by rw[d];exact b)
   have hlen:(Sim.setL cells (i*e) cs0).length=cells.length:=by
    rw[hs];simp[d];omega
   rw[uI e m (i+1) _ xs a (by rw[hlen,h1];congr 1;omega) (by simpa using h2) (by simpa using h3) (fun j x h=>by
    obtain⟨c,q1,q2,q3⟩:=h4 (j+1) x (by simpa using h);exact⟨c,q1,q2,by simpa using q3⟩)]
   congr 1;rw[hs,cV3,<-List.append_assoc];congr 1
   have hl:(cells.take (i*e)++cs0).length=(i+1)*e:=by
    simp[d,aX3];omega
   rw[cI3 (by rw[hl];exact yX2 _),aK3 (by rw[hl];exact yX2 _)]
def Vv (e:Nat):∀(a:aA (aA AV)),(∀c∈a,c.length=e)->(List.range a.length).map (fun i=>(a.flatten.drop (i*e)).take e)=a
 |[],_=>rfl
 |c::a,h=>by
  have hc:=h c (by simp)
  have ih:=Vv e a (fun c hc=>h c (by simp[hc]))
  rw[zZ2,List.range_succ_eq_map,bQ3,List.map_map]
  simp only[cW3,aO3,cV3]
  rw[cI3 (by omega),aK3 (by omega)]
  congr 1
  refine Eq.trans (List.map_congr_left fun i _=>?_) ih
  simp only[Function.comp]
  rw[bD3,bK3,<-hc,<-bU3,List.drop_left]
def yF (l:aA AV):∀(m:aA Nat),(m.flatMap fun _=>l).length=m.length*l.length
 |[]=>by simp
 |a::m=>by
  rw[cL3,aU3,yF l m,zZ2,bD3,bK3]
section
variable {R:Type} {C:Cx} {h:aJ} {s:Hp} {k:gC} {xs:List PV} {ys:List AV} {K:PV->aJ->Nat->Option R} {r:R}
def dM1 (d1 a:Nat):d1<=(bif Nat.blt d1 a then a else d1)/\a<=(bif Nat.blt d1 a then a else d1):=by
 by_cases h:d1<a;have hb:Nat.blt d1 a=true:=by simpa using h
 rw[hb];simp only[zE2];omega;have hb:Nat.blt d1 a=false:=by cases hb:Nat.blt d1 a with|false=>rfl|true=>exact absurd (by simpa using hb) h
 rw[hb];simp only[zP2];omega
def dN1 {x} {y} {d} {x'} (h:RV C x y) (hc:cS1 x=some (d,x')):RZ C.z d x' y:=by
 have pl:∀{x},RV C x y->gZ x=true->RC true x y:=fun a hp=>by
  have:=(LR.cons a .nil).plain (xs:=[_]) (by simpa using hp);exact this.head
 unfold cS1 at hc;split at hc;cases hc;exact tO h;rename_i a;cases hp:gZ x with
 |true=>rw[hp]at hc;cases hc;exact RZ.of (pl h hp)
 |false=>rw[hp]at hc;cases hc
def Iv:∀{cs} {cs'} {d} {ys},LR (RV C) cs cs'->Fa cs=some (d,ys)->LR (RZ C.z d) ys cs'
 |[],cs',d,ys,h,hc=>by
  rw[h.inv_nil];cases hc;exact .nil
 |x::xs,cs',d,ys,h,hc=>by
  obtain⟨y,c,rfl,h1,h2⟩:=h.inv_cons
  unfold Fa at hc
  split at hc
  rename_i d1 e a xs' b e2
  cases hc
  have m:=dM1 d1 a
  exact .cons (RZ.up m.1 (dN1 h1 b)) ((Iv h2 e2).mono fun _ _ h=>RZ.up m.2 h)
  cases hc
def xU1 {R} (d:Nat) (K:Nat->aB R):fD d K=K d:=by
 unfold fD;split<;>rfl
def Bi (e:Nat):∀(xs:aA PV) (K:Nat->aA (aA PV)->aB R) (r:R),Fb e xs K=some r->∃dp rows,K dp rows=some r/\rows.length=xs.length/\
  ∀(j:Nat) (x:PV),xs[j]? =some x->∃cs,fY x=some cs/\∃d ys,Fa cs=some (d,ys)/\ys.length=e/\d<=dp/\rows[j]? =some ys
 |[],K,r,h=>⟨0,[],h,rfl,fun j x a=>by simp at a⟩
 |x::xs,K,r,h=>by
  simp only[Fb,lR,xU1,yR2]at h
  obtain⟨cs,h1,h2⟩:=h
  split at h2
  rename_i d ys f
  cases hb:Nat.beq ys.length e with
  |false=>rw[hb]at h2;cases h2
  |true=>
   rw[hb,zE2]at h2
   obtain⟨dp,rows,g,i,k⟩:=Bi e xs _ r h2
   have m:=dM1 d dp
   refine⟨_,_,g,by simp[i],fun j l a=>?_⟩
   cases j with
   |zero=>simp at a;subst a;exact⟨cs,h1,d,ys,f,zM2 hb,m.1,rfl⟩
   |succ j=>
    simp at a
    obtain⟨cs',q1,c,b,q2,q3,q4,q5⟩:=k j l a
    exact⟨cs',q1,c,b,q2,q3,zX2 q4 m.2,by simpa using q5⟩
  cases h2
def Tc {ty} {e len} {zero} {parts} (J:cM C n h lim s) (o:LR (RV C) xs ys) (hk:fE (.buildSl ty e len zero parts) xs h n K=some r):gQ C n h lim s (.buildSl ty e len zero parts) ys K r:=by
 have hk:(bif Kr 0 parts&&(Nat.beq zero.length e&& !(dY ty))then(bif Nat.beq parts.length len then bif xs.all cT1 then xU e xs fun rows=>bif Nat.beq rows.length len then K (.own n) ((n,.lst ty e false rows)::h) (n+1)else none else Fb e xs fun dp rows=>bif Nat.beq rows.length len then K (.own n) ((n,.lz ty e dp rows)::h) (n+1)else none else none)else none)=some r:=by
  rcases xs with _|⟨a,_|⟨b,_|⟨c,t⟩⟩⟩<;>exact hk
 by_cases hc:(Kr 0 parts&&(Nat.beq zero.length e&& !(dY ty)))=true;rw[hc,zE2]at hk;simp only[yS2,aW,zD2]at hc hk;obtain⟨c1,c2,p⟩:=hc;have R:zD ty=ty:=by simp only[zK2]at p;simp[zD,p]
 have M:dY ty=false:=by simpa using p
 by_cases c3:parts.length=len;rw[aF3 c3,zE2]at hk
 have N:∃(po:cS) (rows:aA (aA PV)) (Q:PV->AV->Prop),K (.own n) ((n,po)::h) (n+1)=some r/\rows.length=len/\rows.length=xs.length/\
   (∀(j:Nat) (x:PV),xs[j]? =some x->∃cs,fY x=some cs/\∃r,rows[j]? =some r/\r.length=e/\∀cs',LR (RV C) cs cs'->LR Q r cs')/\
   ∀f:aA (aA AV),rows.length=f.length->(∀(i:Nat) (r:aA PV) (r':aA AV),rows[i]? =some r->f[i]? =some r'->LR Q r r')->
    fI (ext C n (.atp s.n 0 e len)) (Sim.look (.ob s.n (.arr false ty e 0 f)::s.h)) lim (s.n+1) po (.atp s.n 0 e len):=by
  cases hpl:xs.all cT1 with
  |true=>
   rw[hpl,zE2]at hk;obtain⟨rows,m,E,F⟩:=yB e xs _ r hk;by_cases c4:rows.length=len;rw[aF3 c4,zE2]at m;refine⟨_,rows,RC true,m,c4,E,fun j x o=>?_,fun f hl u=>?_⟩;obtain⟨cs,q1,q2,q3,q4⟩:=F j x o;exact⟨cs,q1,cs,q4,q2,fun cs' h=>h.plain q3⟩;exact⟨J.lim,by omega,rfl,c4.symm,f,by rw[eK,yY2 rfl,R],by rw[aK3 (by rw[hl];exact yX2 _)];exact⟨hl,u⟩,⟨by rw[hl];exact yX2 _,.exact (by rw[hl];exact yX2 _)⟩,fun _=>hl.symm⟩;rw[zO2 c4]at m;exact aD m
  |false=>
   rw[hpl,zP2]at hk;obtain⟨dp,rows,m,E,F⟩:=Bi e xs _ r hk;by_cases c4:rows.length=len;rw[aF3 c4,zE2]at m;refine⟨_,rows,RZ C.z dp,m,c4,E,fun j x o=>?_,fun f hl u=>?_⟩;obtain⟨cs,q1,d,U,q2,q3,q4,q5⟩:=F j x o;exact⟨cs,q1,U,q5,q3,fun cs' h=>(Iv h q2).mono fun _ _ h=>RZ.up q4 h⟩;exact⟨J.lim,by omega,rfl,c4.symm,M,f,by rw[eK,yY2 rfl],hl,u⟩;rw[zO2 c4]at m;exact aD m
 obtain⟨po,rows,Q,m,c4,E,F,S⟩:=N;have hp:=zX 0 parts c1;rw[c3]at hp;subst hp
 have D:∀(j:Nat) (x:AV),ys[j]? =some x->∃cs,x.cells=some cs/\cs.length=e/\∃r,rows[j]? =some r/\LR Q r cs:=by
  intro j y hy;have A:j<xs.length:=by rw[o.1];exact(yT2.1 hy).1
  obtain⟨cs,q1,G,q2,q3,q4⟩:=F j xs[j] (by simp);obtain⟨cs',p1,p2⟩:=oZ (o.2 j xs[j] y (by simp) hy) q1;have:=q4 cs' p2;exact⟨cs',p1,by rw[<-this.1];exact q3,G,q2,this⟩
 have q:∃f:aA (aA AV),f.length=ys.length/\∀(j:Nat) (x:AV),ys[j]? =some x->∃cs,x.cells=some cs/\cs.length=e/\f[j]? =some cs/\∃r,rows[j]? =some r/\LR Q r cs:=by
  refine⟨ys.map fun y=>(y.cells).getD [],by simp,fun j y hy=>?_⟩;obtain⟨cs,p1,p2,p3⟩:=D j y hy;exact⟨cs,p1,p2,by simp[hy,p1],p3⟩
 obtain⟨f,H,T⟩:=q;have g:ys.length=len:=by rw[<-o.1,<-E,c4]
 have W:(Sim.zeroRow zero).length=e:=by simp[Sim.zeroRow,c2]
 have L:((List.range len).flatMap fun _=>Sim.zeroRow zero).length=len*e:=by
  rw[yF,W,List.length_range]
 have l:=uI e len 0 ((List.range len).flatMap fun _=>Sim.zeroRow zero) ys f (by rw[L];simp) g (by rw[H,g]) (fun j x o=>by
  obtain⟨cs,p1,p2,p3,_⟩:=T j x o;exact⟨cs,p1,p2,p3⟩)
 simp only[cW3,List.take_zero,cJ3]at l
 have w:∀c∈f,c.length=e:=by
  intro c hc;obtain⟨j,V⟩:=zL2.1 hc;have A:j<ys.length:=by rw[<-H];exact(yT2.1 V).1
  obtain⟨cs,p1,p2,p3,_⟩:=T j ys[j] (by simp);rw[V]at p3;cases p3;exact p2
 have k:=Vv e f w;rw[H,g]at k
 have u:∀(j:Nat) (G:aA PV) (r1:aA AV),rows[j]? =some G->f[j]? =some r1->LR Q G r1:=by
  intro j G r1 P B;have A:j<ys.length:=by rw[<-H];exact(yT2.1 B).1
  obtain⟨cs,p1,p2,p3,r2,p4,p5⟩:=T j ys[j] (by simp);rw[B]at p3;cases p3;rw[P]at p4;cases p4;exact p5
 have O:=mO J (.atp s.n 0 e len);obtain⟨X,Y,Z⟩:=qA J (po:=po) (ao:=.arr false ty e 0 f) (ver:=0) (e:=e) (len:=len) (S f (by rw[c4,H,g]) u);refine⟨_,_,_,_,{v:=.sl e s.n 0 0 len none,new:=some (.arr false ty e 0 f)},m,?_,.own (mP C n _),X,O,by omega,Y,fun _=>Z⟩
 have:doOp (Sim.look s.h) lim s.n (.buildSl ty e len zero (List.range' 0 len)) ys=(Sim.fillParts ((List.range len).flatMap fun _=>Sim.zeroRow zero) ((List.range' 0 len).map fun i=>(i*e,e)) ys).map fun cs=>
  {v:=.sl e s.n 0 0 len none,new:=some (.arr false ty e 0 ((List.range len).map fun i=>(cs.drop (i*e)).take e))}:=by
  rcases ys with _|⟨a,_|⟨b,_|⟨c,t⟩⟩⟩<;>rfl
 rw[this,l];simp only[zW2];rw[k];rw[zO2 c3]at hk;exact aD hk;simp only[bA3]at hc;rw[hc]at hk;exact aD hk
def Fq {i}:∀{m:Nat} {K:Nat->aB R} {r:R},On i m K=some r->∃j,j<m/\i=(j:Int)/\K j=some r
 |0,K,r,h=>by unfold On at h;exact aD h
 |m+1,K,r,h=>by
  unfold On at h
  rw[rQ]at h
  split at h
  rename_i e;exact⟨m,by omega,by simpa using e,h⟩
  obtain⟨j,h1,h2,a⟩:=Fq h;exact⟨j,by omega,h2,a⟩
def kG1 {len esz} (l:cM C n h lim s) (m:LR (RV C) xs ys) (hk:fE (.iadA len esz) xs h n K=some r):gQ C n h lim s (.iadA len esz) ys K r:=by
 rcases xs with _|⟨p,_|⟨i,_|⟨x2,t⟩⟩⟩
 exact aD hk;exact aD hk;obtain⟨u,_,rfl,h1,h2⟩:=m.inv_cons;obtain⟨w,_,rfl,d,f⟩:=h2.inv_cons;rw[f.inv_nil];unfold fE at hk;simp only at hk;split at hk;rename_i i;split at hk;rename_i k o;obtain⟨j,q,a,b⟩:=Fq hk;clear hk;subst a;rw[gT d];obtain⟨id,ver,e,c,g,rfl⟩:=kH h1;refine bC (v:=.ref k (o+j*esz)) (y:=.ptr id ver 0 (o+j*esz)) l ?_ (.ref g) b;simp only[doOp,Sim.intOf];rw[yY2 ⟨by omega,by omega⟩];simp;exact aD hk;exact aD hk;exact aD hk
def Pk (g:cM C n h lim s) (j:LR (RV C) xs ys) (hk:fE k xs h n K=some r):gQ C n h lim s k ys K r:=by
 cases k with
 |mov=>exact uG1 g j hk
 |nilc=>exact kC1 g j hk
 |box ty size=>exact uH1 g j hk
 |alloc ty zero=>exact dC1 g j hk
 |build zero parts=>exact dD1 g j hk
 |buildSl ty e len zero parts=>exact Tc g j hk
 |loadS=>exact dG1 g j hk
 |loadA m=>exact dH1 g j hk
 |store m=>exact dI1 g j hk
 |fad off=>exact uI1 g j hk
 |iad e=>exact uJ1 g j hk
 |iadA len esz=>exact kG1 g j hk
 |idxStr=>exact Yp g j hk
 |idxA len e agg=>exact kD1 g j hk
 |bin op=>exact uK1 g j hk
 |eqB neg=>exact uL1 g j hk
 |eqA neg ks=>exact uM1 g j hk
 |un op=>exact xS1 g j hk
 |convI k=>exact dJ1 g j hk
 |s2b t=>exact uN1 g j hk
 |mkfn f m=>exact kE1 g j hk
 |mkmap=>exact dK1 g j hk
 |mksl ty e b zero=>exact kF1 g j hk
 |slc e lo hi mx=>exact uO1 g j hk
 |lookup agg ks zero ok=>exact Yr g j hk
 |mapup agg ks=>exact dL1 g j hk
 |len kd=>exact uP1 g j hk
 |mx=>exact xT1 g j hk
 |ext i=>exact uQ1 g j hk
 |_=>rcases xs with _|⟨a,_|⟨b,_|⟨c,_|⟨d,t⟩⟩⟩⟩<;>exact aD hk
end
end Go.P
namespace Go.P
open Go.Sim (AV AO Hp fQ upd St IC IX Ex gC CK Wf Out doOp jW Foot foot exec runOps eN wanted put iC)
def jO:gC->Bool
 |.callF _|.callV=>true
 |_=>false
def kR (N:FuncId->Bool) (dr:Nat):gC->Nat
 |.len kd=>bif Nat.beq kd 2 then 1 else 0
 |.loadS|.loadA _|.lookup .. |.slc .. |.b2s=>1
 |.box .. |.alloc .. |.buildSl .. |.mkmap|.mksl .. =>2
 |.callF f=>if N f then(if 6<=dr then(if f+6=dr then 7 else 8)else 4)else 3
 |.callV=>if dr=4 then 4 else 3
 |.store _|.mapup .. |.append .. |.copy _|.clear .. =>5
 |_=>0
inductive Tr (T:jW) (N:FuncId->Bool) (dr lim:Nat):List Sim.Op1->St->List Foot->St->Prop
 |nil {σ:St}:Tr T N dr lim [] σ [] σ
 |skip {o:Sim.Op1} {os:List Sim.Op1} {σ τ:St} {fs:List Foot} (hw:wanted σ.t o.guard=false) (h:Tr T N dr lim os {t:=put σ.t o.dst .undef,s:=σ.s} fs τ):Tr T N dr lim (o::os) σ ({}::fs) τ
 |op {o:Sim.Op1} {os:List Sim.Op1} {σ τ:St} {fs:List Foot} {xs:List AV} {out:Out} (hw:wanted σ.t o.guard=true) (he:Sim.evs σ.t o.xs=some xs) (hc:jO o.k=false)
   (hd:doOp (Sim.look σ.s.h) lim σ.s.n o.k xs=some out) (h:Tr T N dr lim os {t:=put σ.t o.dst out.v,s:=out.apply σ.s} fs τ):
   Tr T N dr lim (o::os) σ ({foot T o.k xs with al:=List.range' σ.s.n ((out.apply σ.s).n-σ.s.n)}::fs) τ
 |call {o:Sim.Op1} {os:List Sim.Op1} {σ τ:St} {fs:List Foot} {xs:List AV} {v:AV} (hw:wanted σ.t o.guard=true) (he:Sim.evs σ.t o.xs=some xs) (hc:jO o.k=true) (hk:kR N dr o.k=3\/kR N dr o.k=4) (hf:foot T o.k xs={all:=1,x:=true})
   (hs:∃D,∀d,D<=d->∀m,Sim.step T (exec T d) lim o.k xs {h:=σ.s.h,n:=m}=some (v,{h:=σ.s.h,n:=m})) (h:Tr T N dr lim os {t:=put σ.t o.dst v,s:=σ.s} fs τ):
   Tr T N dr lim (o::os) σ ({all:=1,x:=true}::fs) τ
 |ncall {o:Sim.Op1} {os:List Sim.Op1} {σ τ:St} {fs:List Foot} {xs:List AV} {v:AV} {s':Hp} (hw:wanted σ.t o.guard=true) (he:Sim.evs σ.t o.xs=some xs) (hc:jO o.k=true) (hf:(foot T o.k xs).all=2\/dr=0) (hk:dr≠0->kR N dr o.k=4)
   (hs:∃D,∀d,D<=d->Sim.step T (exec T d) lim o.k xs σ.s=some (v,s')) (hn:σ.s.n<=s'.n) (h:Tr T N dr lim os {t:=put σ.t o.dst v,s:=s'} fs τ):
   Tr T N dr lim (o::os) σ ({foot T o.k xs with al:=List.range' σ.s.n (s'.n-σ.s.n)}::fs) τ
 |ycall {o:Sim.Op1} {os:List Sim.Op1} {σ τ:St} {fs:List Foot} {xs:List AV} {v:AV} {s':Hp} {w:List Nat} (hw:wanted σ.t o.guard=true) (he:Sim.evs σ.t o.xs=some xs) (hc:jO o.k=true) (hk:kR N dr o.k=7\/kR N dr o.k=8/\w=[]) (hf:(foot T o.k xs).all=3)
   (hs:∃D,∀d,D<=d->Sim.callX true (Sim.step T (exec T d) lim o.k xs) [] xs σ.s=some (v,s',w)) (hn:σ.s.n<=s'.n) (h:Tr T N dr lim os {t:=put σ.t o.dst v,s:=s'} fs τ):
   Tr T N dr lim (o::os) σ ({wr:=w,al:=List.range' σ.s.n (s'.n-σ.s.n),all:=1,x:=true}::fs) τ
section
variable {T:jW} {N:FuncId->Bool} {dr lim:Nat}
def Tr.append {as bs} {σ τ υ} {fs gs} (h:Tr T N dr lim as σ fs τ) (k:Tr T N dr lim bs τ gs υ):Tr T N dr lim (as++bs) σ (fs++gs) υ:=by
 induction h with
 |nil=>exact k
 |skip hw h ih=>exact .skip hw (ih k)
 |op hw he hc hd h ih=>exact .op hw he hc hd (ih k)
 |call hw he hc hk hf hs h ih=>exact .call hw he hc hk hf hs (ih k)
 |ncall hw he hc hf hk hs hn h ih=>exact .ncall hw he hc hf hk hs hn (ih k)
 |ycall hw he hc hk hf hs hn h ih=>exact .ycall hw he hc hk hf hs hn (ih k)
def Vw {ex} {k} {xs} {s} {out} (hc:jO k=false) (hd:doOp (Sim.look s.h) lim s.n k xs=some out):Sim.step T ex lim k xs s=some (out.v,out.apply s):=by
 unfold Sim.step;split;simp[jO]at hc;simp[jO]at hc;rw[hd]
def Vx {k} (h:kR N dr k=7\/kR N dr k=8):6<=dr:=by
  cases k
  case callF f => simp only[kR]at h;repeat' split at h
                  all_goals first|assumption|omega
  case len kd=>simp only[kR]at h;cases hk:Nat.beq kd 2<;>rw[hk]at h<;>simp at h
  all_goals simp[kR]at h
  all_goals (split at h<;>omega)
def Tr.run (e:dr=0) {os} {σ τ} {fs} (h:Tr T N dr lim os σ fs τ):∃D,∀d,D<=d->runOps T (exec T d) lim os σ=some τ:=by
 induction h with
 |nil=>exact⟨0,fun d _=>rfl⟩
 |skip hw h ih=>
  obtain⟨D,a⟩:=ih;refine⟨D,fun d hd=>?_⟩;simp only[runOps,hw];exact a d hd
 |op hw he hc hd h ih=>
  obtain⟨D,a⟩:=ih;refine⟨D,fun d c=>?_⟩;simp only[runOps,hw,zT2,he,Vw hc hd];exact a d c
 |@ncall o os σ τ fs xs v s' hw he hc hf hk hs hn h ih=>
  obtain⟨D,a⟩:=ih;obtain⟨D2,b⟩:=hs;refine⟨max D D2,fun d hd=>?_⟩;simp only[runOps,hw,zT2,he,b d (by omega)];exact a d (by omega)
 |ycall hw he hc hk hf hs hn h ih=>exact absurd (Vx (hk.imp id And.left)) (by omega)
 |@call o os σ τ fs xs v hw he hc hk hf hs h ih=>
  obtain⟨D,a⟩:=ih;obtain⟨D2,b⟩:=hs;refine⟨max D D2,fun d hd=>?_⟩;simp only[runOps,hw,zT2,he];have:=b d (by omega) σ.s.n;rw[show({h:=σ.s.h,n:=σ.s.n}:Hp)=σ.s from rfl]at this;rw[this];exact a d (by omega)
def pA (c:Nat) (f:Foot):Prop:=
 f={}\/match c with
  |0=>f={}
  |1=>f.wr=[]/\f.al=[]/\f.all=0
  |2=>f.rd=[]/\f.wr=[]/\f.all=0
  |3=>f={all:=1,x:=true}
  |5=>f.all=0
  |6=>f.all=0
  |7=>f.rd=[]/\f.all=1/\f.x=true
  |8=>f.rd=[]/\f.wr=[]/\f.all=1/\f.x=true
  |_=>True
def jP (i j:Nat):Bool:=
 bif Nat.beq i 0 then !Nat.beq j 4 else bif Nat.beq j 0 then !Nat.beq i 4 else
  (Nat.ble i 3&&Nat.ble j 3&& !(Nat.beq i 3&&Nat.beq j 3)&& !(Nat.beq i 2&&(Nat.beq j 3||Nat.beq j 1)))||(Nat.beq i 5&&Nat.beq j 2)
def Ky (i j:Nat):Bool:=(Nat.ble 7 i&&Nat.beq j 2)||(Nat.beq j 8&&Nat.beq i 1)
def rW (i j:Nat):Bool:=Nat.beq i 0||Nat.beq j 0||jP i j||Ky i j
theorem Td {i j} {f g} (hi:i<=5) (b:j<=5) (h:jP i j=true) (hf:pA i f) (hg:pA j g):Sim.compat0 f g=true:=by
 unfold pA at hf hg;have k:∀g:Foot,g.all<=1->Sim.compat0 {} g=true:=fun g hg=>by simp[Sim.compat0,hg]
 have d:∀f:Foot,f.all<=1->Sim.compat0 f {}=true:=fun f hf=>by simp[Sim.compat0,hf]
 have e:i≠4:=by rintro rfl;(match j,b,h with|0,_,h|1,_,h|2,_,h|3,_,h|4,_,h|5,_,h=>simp[jP]at h)
 have a:j≠4:=by rintro rfl;(match i,hi,h with|0,_,h|1,_,h|2,_,h|3,_,h|4,_,h|5,_,h=>simp[jP]at h)
 have a1:∀{c:Nat} {f:Foot},c<=5->c≠4->(f={}\/match c with
  |0=>f={}
  |1=>f.wr=[]/\f.al=[]/\f.all=0
  |2=>f.rd=[]/\f.wr=[]/\f.all=0
  |3=>f={all:=1,x:=true}
  |5=>f.all=0
  |6=>f.all=0
  |7=>f.rd=[]/\f.all=1/\f.x=true
  |8=>f.rd=[]/\f.wr=[]/\f.all=1/\f.x=true
  |_=>True)->f.all<=1:=by grind
 have b1:=a1 hi e hf;have b2:=a1 b a hg;rcases hf with rfl|hf;exact k g b2;rcases hg with rfl|hg;exact d f b1
 have fin:f.wr=[]->g.wr=[]->f.al=[]\/(g.rd=[])->f.all+g.all<=1->Sim.compat0 f g=true:=by
  intro q1 q2 q3 q4;rcases q3 with q3|q3<;>simp[Sim.compat0,q1,q2,q3,q4]
 match i,hi,e,h,hf with
 |0,_,_,_,hf=>rw[hf];exact k g b2
 |1,_,_,h,hf=>
  obtain⟨p1,p2,p3⟩:=hf
  match j,b,a,h,hg with
  |0,_,_,_,hg=>rw[hg];exact d f b1
  |1,_,_,_,hg=>exact fin p1 hg.1 (.inl p2) (by rw[p3,hg.2.2];simp)
  |2,_,_,_,hg=>exact fin p1 hg.2.1 (.inl p2) (by rw[p3,hg.2.2];simp)
  |3,_,_,_,hg=>exact fin p1 (by rw[hg]) (.inl p2) (by rw[p3,hg];simp)
  |4,_,h4,_,_=>exact absurd rfl h4
  |5,_,_,h,_=>simp[jP]at h
 |2,_,_,h,hf=>
  obtain⟨p1,p2,p3⟩:=hf
  match j,b,a,h,hg with
  |0,_,_,_,hg=>rw[hg];exact d f b1
  |1,_,_,h,_=>simp[jP]at h
  |2,_,_,_,hg=>exact fin p2 hg.2.1 (.inr hg.1) (by rw[p3,hg.2.2];simp)
  |3,_,_,h,_=>simp[jP]at h
  |4,_,h4,_,_=>exact absurd rfl h4
  |5,_,_,h,_=>simp[jP]at h
 |3,_,_,h,hf=>
  match j,b,a,h,hg with
  |0,_,_,_,hg=>rw[hg];exact d f b1
  |1,_,_,_,hg=>exact fin (by rw[hf]) hg.1 (.inl (by rw[hf])) (by rw[hf,hg.2.2];simp)
  |2,_,_,_,hg=>exact fin (by rw[hf]) hg.2.1 (.inl (by rw[hf])) (by rw[hf,hg.2.2];simp)
  |3,_,_,h,_=>simp[jP]at h
  |4,_,h4,_,_=>exact absurd rfl h4
  |5,_,_,h,_=>simp[jP]at h
 |4,_,h1,_,_=>exact absurd rfl h1
 |5,_,_,h,hf=>
  match j,b,a,h,hg with
  |0,_,_,_,hg=>rw[hg];exact d f b1
  |1,_,_,h,_=>simp[jP]at h
  |2,_,_,_,hg=>
   obtain⟨p1,p2,p3⟩:=hg;have hf:f.all=0:=hf;simp[Sim.compat0,p1,p2,p3,hf]
  |3,_,_,h,_=>simp[jP]at h
  |4,_,h4,_,_=>exact absurd rfl h4
  |5,_,_,h,_=>simp[jP]at h
theorem Iw {i j} {f g} (hi:i<=8) (o:j<=8) (h:rW i j=true) (hf:pA i f) (hg:pA j g):Sim.compat f g=true:=by
 simp only[rW,zN2]at h
 have left:i=0->Sim.compat f g=true:=by
  intro this;subst this;rcases hf with rfl|hf;rfl;have hf:f={}:=hf;subst hf;rfl
 have right:j=0->Sim.compat f g=true:=by
  intro this;subst this;have hg:g={}:=by rcases hg with hg|hg<;>exact hg
  subst hg;simp[Sim.compat,Sim.Foot.isE]
 have m:∀g:Foot,Sim.compat {} g=true:=fun g=>rfl;have n:∀f:Foot,Sim.compat f {}=true:=fun f=>by simp[Sim.compat,Sim.Foot.isE]
 rcases h with((h|h)|h)|h;simp_all;simp_all;by_cases l:i<=5/\j<=5;simp[Sim.compat,Td l.1 l.2 h hf hg];unfold jP at h;by_cases d:i=0;exact left d;by_cases e:j=0;exact right e;rw[aW,zO2 d,zP2,aW,zO2 e,zP2]at h;simp only[zN2,yS2,bY3,aW,zD2]at h;omega;simp only[Ky,zN2,yS2,aW,zD2,bY3]at h
 have k:7<=i->f={}\/(f.rd=[]/\f.all=1):=fun l=>by
  rcases hf with h|h;exact .inl h
  grind
 rcases h with⟨h1,rfl⟩|⟨rfl,rfl⟩
 rcases k h1 with rfl|⟨a,c⟩
 exact m g;rcases hg with rfl|hg;exact n f;obtain⟨p1,p2,p3⟩:g.rd=[]/\g.wr=[]/\g.all=0:=hg;simp[Sim.compat,Sim.compat0,a,c,p1,p2,p3];rcases hg with rfl|hg;exact n f;obtain⟨a,b,c,_⟩:g.rd=[]/\g.wr=[]/\g.all=1/\g.x=true:=hg;rcases hf with rfl|hf;exact m g;obtain⟨p1,p2,p3⟩:f.wr=[]/\f.al=[]/\f.all=0:=hf;simp[Sim.compat,Sim.compat0,a,b,c,p1,p2,p3]
def qC (N:FuncId->Bool) (dr:Nat) (k:gC):kR N dr k<=8:=by
  cases k
  case len kd=>simp only[kR];cases Nat.beq kd 2<;>simp
  case callF f => simp only[kR];repeat' split
                  all_goals omega
  all_goals simp[kR]<;>split<;>omega
def dO1 {N} {dr} {k} (h:jO k=true):kR N dr k=3\/kR N dr k=4\/7<=kR N dr k:=by
 cases k<;>simp[jO]at h<;>simp only[kR]
 all_goals repeat' split
 all_goals omega
def rR1 {L} {n} {k} {xs} {out} (h:doOp L lim n k xs=some out) (hk:kR N dr k<=1):out.new=none:=by
 have hc:∀{o:aB Out} {P:Prop},o=some out->(∀o',o=some o'->o'.new=none)->out.new=none:=fun h1 h2=>h2 _ h1;unfold doOp at h;split at h
 all_goals first|(simp[kR]at hk;done)|(simp only[kR]at hk;split at hk<;>omega)|skip
 all_goals (repeat' split at h)
 all_goals first|(cases h;done)|(cases h;rfl)|(simp only[yV2]at h;obtain⟨_,_,rfl⟩:=h;rfl)|skip
def tP {s:Hp} {out:Out} (h:out.new=none):List.range' s.n ((out.apply s).n-s.n)=[]:=by
 unfold Out.apply;rw[h];simp
end
end Go.P
namespace Go.P
open Go.Sim (AV AO Hp fQ upd St IC IX Ex gC CK Wf Out doOp jW Foot foot exec runOps eN wanted put iC)
variable {a lim:Nat} {before:aA Nat} {fs:aA Foot} {os:aA Sim.Op1} {σ τ:St}
section
variable {T:jW} {N:FuncId->Bool} {dr:Nat}
def Vy {k} {xs} {s} {out} (hc:jO k=false) (hd:doOp (Sim.look s.h) lim s.n k xs=some out):
  pA (kR N dr k) {foot T k xs with al:=List.range' s.n ((out.apply s).n-s.n)}:=by
 have d:kR N dr k<=1->List.range' s.n ((out.apply s).n-s.n)=[]:=fun h=>tP (rR1 hd h);cases k
 case len kd=>
  cases hk:Nat.beq kd 2 with
  |true=>
   have hl:=d (by simp[kR,hk]);rw[hl,show kR N dr (.len kd)=1 by simp[kR,hk]];refine .inr ⟨?_,rfl,?_⟩<;>(rcases xs with _|⟨a,_|⟨b,t⟩⟩<;>rfl)
  |false=>
   have h0:=d (by simp[kR,hk]);refine .inl ?_;rw[h0];rcases xs with _|⟨a,_|⟨b,t⟩⟩<;>simp[foot,hk]
 all_goals first|(simp[jO]at hc;done)|skip
 all_goals first
  |exact .inr trivial
  |(refine .inr ?_;rcases xs with _|⟨a,_|⟨b,_|⟨c,t⟩⟩⟩<;>rfl)
  |(have h0:=d (aB3 1);refine .inl ?_;rw[h0];rfl)
  |(have h0:=d (yX2 1);refine .inr ⟨?_,h0,?_⟩<;>(rcases xs with _|⟨a,_|⟨b,_|⟨c,t⟩⟩⟩<;>rfl))
  |exact .inr ⟨rfl,rfl,rfl⟩
def uB {c} (h:c=3\/c=4) (f:Foot) (hf:f={all:=1,x:=true}):pA c f:=by
 subst hf;rcases h with rfl|rfl;exact .inr rfl;exact .inr trivial
def Tr.feet (a:dr≠0) {os} {σ τ} {fs} (h:Tr T N dr lim os σ fs τ):fs.length=os.length/\∀(i:Nat) (o:Sim.Op1) (f:Foot),os[i]? =some o->fs[i]? =some f->pA (kR N dr o.k) f:=by
 induction h with
 |nil=>exact⟨rfl,fun i o f h=>by simp at h⟩
 |skip hw h ih=>
  refine⟨by simp[ih.1],fun i o f h1 h2=>?_⟩;cases i with
  |zero=>simp at h1 h2;subst h1;subst h2;exact .inl rfl
  |succ i=>simp at h1 h2;exact ih.2 i o f h1 h2
 |op hw he hc hd h ih=>
  refine⟨by simp[ih.1],fun i o f h1 h2=>?_⟩;cases i with
  |zero=>simp at h1 h2;subst h1;subst h2;exact Vy hc hd
  |succ i=>simp at h1 h2;exact ih.2 i o f h1 h2
 |@call o os σ τ fs xs v hw he hc hk hf hs h ih=>
  refine⟨by simp[ih.1],fun i o' f h1 h2=>?_⟩;cases i with
  |zero=>
   simp at h1 h2;subst h1;subst h2;exact uB hk _ rfl
  |succ i=>simp at h1 h2;exact ih.2 i o' f h1 h2
 |@ncall o os σ τ fs xs v s' hw he hc hf hk hs hn h ih=>
  refine⟨by simp[ih.1],fun i o' f h1 h2=>?_⟩;cases i with
  |zero=>
   simp at h1 h2;subst h1;subst h2;rw[hk a];exact .inr trivial
  |succ i=>simp at h1 h2;exact ih.2 i o' f h1 h2
 |@ycall o os σ τ fs xs v s' w hw he hc hk hf hs hn h ih=>
  refine⟨by simp[ih.1],fun i o' f h1 h2=>?_⟩;cases i with
  |zero=>
   simp at h1 h2;subst h1;subst h2;rcases hk with hk|⟨hk,rfl⟩
   rw[hk];exact .inr ⟨rfl,rfl,rfl⟩;rw[hk];exact .inr ⟨rfl,rfl,rfl,rfl⟩
  |succ i=>simp at h1 h2;exact ih.2 i o' f h1 h2
def jM {f g} (h:Sim.compat0 f g=true):Sim.compat f g=true:=by simp[Sim.compat,h]
def Kz (ks before:aA Nat):Bool:=
 (List.range ks.length).all fun j=>(List.range j).all fun i=>(before.getD j 0).testBit i||rW (ks.getD i 4) (ks.getD j 4)
def wF {mask} {ft}:∀{j},(∀i,i<j->mask.testBit i=true\/(ft i).al=[])->Sim.unseen mask j (iC ft j)=[]
 |0,_=>rfl
 |j+1,h=>by
  simp only[iC,Sim.unseen,cD3]
  rw[wF (fun i hi=>h i (by omega))]
  rcases h j (by omega)with h1|h1
  rw[yY2 h1];rfl
  rw[h1];simp
def yG {mask} {f} {ft}:∀{j},(∀i,i<j->mask.testBit i=true\/Sim.compat (ft i) f=true)->Sim.drawOK.okAgainst mask f (iC ft j) j=true
 |0,_=>rfl
 |j+1,h=>by
  simp only[iC,Sim.drawOK.okAgainst,cD3,yS2,zN2]
  exact⟨h j (by omega),yG (fun i hi=>h i (by omega))⟩
def Ac {before} {ft}:∀{m},(∀j,j<m->∀i,i<j->(before.getD j 0).testBit i=true\/Sim.compat (ft i) (ft j)=true)->Sim.drawOK before (iC ft m) m=true
 |0,_=>rfl
 |m+1,h=>by
  simp only[iC,Sim.drawOK,cD3,yS2]
  exact⟨yG (h m (by omega)),Ac (fun j a=>h j (by omega))⟩
def dP1 {ft}:∀{j},(∀i,i<j->(ft i).all=0\/(ft i).x=true)->Sim.nbF (iC ft j)=true
 |0,_=>rfl
 |j+1,h=>by
  have ih:=dP1 (j:=j) fun i hi=>h i (by omega)
  unfold Sim.nbF at ih ⊢
  rw[iC,aR3,ih,Bool.and_true]
  rcases h j (by omega)with h1|h1
  rw[h1];rfl
  rw[h1];simp
def dQ1 (h:aA fQ):Sim.hide [] h=h:=rfl
theorem Vz {k k'} {f} (hf:pA k f) (b:k'=3\/k'=4\/7<=k') (hk:k<=8) (h:rW k k'=true):f.al=[]:=by
 have a:k=0\/k=1\/k=3:=by
  unfold rW Ky jP at h;by_cases h0:k=0;exact .inl h0;have h1:k'≠0:=by omega
  rw[aW,zO2 h0,zP2,aW,zO2 h1,zP2]at h;simp only[Bool.false_or,zN2,yS2,bY3,aW,zD2,zK2,Bool.and_eq_false_iff,aA3,bC3]at h;omega
 rcases hf with hf|hf;rw[hf]
 grind
def Tr.foot (J:dr≠0) {before ks:aA Nat}:∀{os:aA Sim.Op1} {σ τ:St} {fs:aA Foot},Tr T N dr lim os σ fs τ->∀(j:Nat) (ft:Nat->Foot),
  (∀(i:Nat),i<fs.length->fs[i]? =some (ft (j+i)))->(∀(i:Nat) (o:Sim.Op1),os[i]? =some o->ks[j+i]? =some (kR N dr o.k))->
  (∀(i l k k':Nat),i<l->ks[i]? =some k->ks[l]? =some k'->k'=3\/k'=4\/7<=k'->(before.getD l 0).testBit i=true\/rW k k'=true)->(∀i k,i<j->ks[i]? =some k->pA k (ft i))->(∀i,i<j->∃k,ks[i]? =some k/\k<=8)->(5<=dr->∀(i k:Nat),ks[i]? =some k->k≠4)->
  ∃D,∀d,D<=d->eN T (exec T d) lim before os j (iC ft j) σ=some (τ,iC ft (j+os.length)):=by
 intro os σ τ fs h
 induction h with
 |nil=>intro j ft _ _ _ _ _ _;exact⟨0,fun d _=>rfl⟩
 |@skip o os σ τ fs hw h ih=>
  intro j ft h1 h2 r p q g;have m:ft j={}:=by have:=h1 0 (by simp);simpa using this.symm
  obtain⟨D,B⟩:=ih (j+1) ft (fun i hi=>by have:=h1 (i+1) (by simp;omega);simpa[aP3,bK3 1 i]using this) (fun i o C=>by have:=h2 (i+1) o (by simpa using C);simpa[aP3,bK3 1 i]using this) r
   (fun i k hi hk=>by
    by_cases e:i=j;subst e;rw[m];exact .inl rfl;exact p i k (by omega) hk)
   (fun i hi=>by
    by_cases e:i=j;subst e;exact⟨_,by have:=h2 0 o rfl;simpa using this,qC _ _ _⟩;exact q i (by omega)) g
  refine⟨D,fun d hd=>?_⟩;simp only[eN,hw];have:=B d hd;rw[iC,m]at this;rw[zZ2,show j+(os.length+1)=j+1+os.length by omega];exact this
 |@op o os σ τ fs xs out hw he hc hd h ih=>
  intro j ft h1 h2 r p q g;have m:ft j={Sim.foot T o.k xs with al:=List.range' σ.s.n ((out.apply σ.s).n-σ.s.n)}:=by have:=h1 0 (by simp);simpa using this.symm
  obtain⟨D,B⟩:=ih (j+1) ft (fun i hi=>by have:=h1 (i+1) (by simp;omega);simpa[aP3,bK3 1 i]using this) (fun i o C=>by have:=h2 (i+1) o (by simpa using C);simpa[aP3,bK3 1 i]using this) r
   (fun i k hi hk=>by
    by_cases e:i=j;subst e;have:=h2 0 o rfl;rw[aZ3,hk]at this;cases this;rw[m];exact Vy hc hd;exact p i k (by omega) hk)
   (fun i hi=>by
    by_cases e:i=j;subst e;exact⟨_,by have:=h2 0 o rfl;simpa using this,qC _ _ _⟩;exact q i (by omega)) g
  have M:(Sim.foot T o.k xs).all=0:=by
   cases hk:o.k<;>simp[hk,jO]at hc<;>(rcases xs with _|⟨a,_|⟨b,_|⟨c,t⟩⟩⟩<;>rfl)
  have H:¬(Sim.foot T o.k xs).all=1:=by omega
  have E:¬(Sim.foot T o.k xs).all=3:=by omega
  refine⟨D,fun d O=>?_⟩;simp only[eN,hw,zT2,he];rw[zB2 H,zB2 E,Vw hc hd];simp only;have:=B d O;rw[iC,m]at this;rw[zZ2,show j+(os.length+1)=j+1+os.length by omega];exact this
 |@ncall o os σ τ fs xs v s' hw he hc hf hk hs hn h ih=>
  intro j ft h1 h2 r p q g;have m:ft j={Sim.foot T o.k xs with al:=List.range' σ.s.n (s'.n-σ.s.n)}:=by have:=h1 0 (by simp);simpa using this.symm
  obtain⟨D,B⟩:=ih (j+1) ft (fun i hi=>by have:=h1 (i+1) (by simp;omega);simpa[aP3,bK3 1 i]using this) (fun i o C=>by have:=h2 (i+1) o (by simpa using C);simpa[aP3,bK3 1 i]using this) r
   (fun i k hi y=>by
    by_cases e:i=j;subst e;have:=h2 0 o rfl;rw[aZ3,y]at this;cases this;rw[m,hk J];exact .inr trivial;exact p i k (by omega) y)
   (fun i hi=>by
    by_cases e:i=j;subst e;exact⟨_,by have:=h2 0 o rfl;simpa using this,qC _ _ _⟩;exact q i (by omega)) g
  obtain⟨D2,u⟩:=hs;refine⟨max D D2,fun d hd=>?_⟩;simp only[eN,hw,zT2,he];have K:=hf.resolve_right J;rw[zB2 (by rw[K];omega),zB2 (by rw[K];omega),u d (by omega)];simp only;have:=B d (by omega);rw[iC,m]at this;rw[zZ2,show j+(os.length+1)=j+1+os.length by omega];exact this
 |@call o os σ τ fs xs v hw he hc hk3 hf hs h ih=>
  intro j ft h1 h2 r p q g;have m:ft j={all:=1,x:=true}:=by have:=h1 0 (by simp);simpa using this.symm
  have A:ks[j]? =some (kR N dr o.k):=by
   have:=h2 0 o rfl;simpa using this
  obtain⟨D,B⟩:=ih (j+1) ft (fun i hi=>by have:=h1 (i+1) (by simp;omega);simpa[aP3,bK3 1 i]using this) (fun i o C=>by have:=h2 (i+1) o (by simpa using C);simpa[aP3,bK3 1 i]using this) r
   (fun i k hi hk=>by
    by_cases e:i=j;subst e;rw[A]at hk;cases hk;rw[m];exact uB hk3 _ rfl;exact p i k (by omega) hk)
   (fun i hi=>by
    by_cases e:i=j;subst e;exact⟨_,A,qC _ _ _⟩;exact q i (by omega)) g
  obtain⟨D2,u⟩:=hs
  have G:Sim.unseen (before.getD j 0) j (iC ft j)=[]:=by
   refine wF (fun i hi=>?_);obtain⟨k,hk,F⟩:=q i hi;rcases r i j k _ hi hk A (by omega)with g|g;exact .inl g;exact .inr (Vz (p i k hi hk) (by omega) F g)
  refine⟨max D D2,fun d hd=>?_⟩;simp only[eN,hw,zT2,he];rw[yY2 (by rw[hf]),G,dQ1,u d (by omega) _];simp only;have:=B d (by omega);rw[iC,m]at this;rw[hf,zZ2,show j+(os.length+1)=j+1+os.length by omega];exact this
 |@ycall o os σ τ fs xs v s' w hw he hc hk hf hs hn h ih=>
  intro j ft h1 h2 r p q g;have m:ft j={wr:=w,al:=List.range' σ.s.n (s'.n-σ.s.n),all:=1,x:=true}:=by have:=h1 0 (by simp);simpa using this.symm
  obtain⟨D,B⟩:=ih (j+1) ft (fun i hi=>by have:=h1 (i+1) (by simp;omega);simpa[aP3,bK3 1 i]using this) (fun i o C=>by have:=h2 (i+1) o (by simpa using C);simpa[aP3,bK3 1 i]using this) r
   (fun i k hi y=>by
    by_cases e:i=j;subst e;have:=h2 0 o rfl;rw[aZ3,y]at this;cases this;rw[m];rcases hk with hk|⟨hk,rfl⟩
    rw[hk];exact .inr ⟨rfl,rfl,rfl⟩;rw[hk];exact .inr ⟨rfl,rfl,rfl,rfl⟩;exact p i k (by omega) y)
   (fun i hi=>by
    by_cases e:i=j;subst e;exact⟨_,by have:=h2 0 o rfl;simpa using this,qC _ _ _⟩;exact q i (by omega)) g
  obtain⟨D2,u⟩:=hs
  have A:ks[j]? =some (kR N dr o.k):=by
   have:=h2 0 o rfl;simpa using this
  have G:Sim.unseen (before.getD j 0) j (iC ft j)=[]:=by
   refine wF (fun i hi=>?_);obtain⟨k,z,F⟩:=q i hi;have f:7<=kR N dr o.k:=by rcases hk with hk|⟨hk,_⟩<;>omega
   rcases r i j k _ hi z A (.inr (.inr f))with g|g;exact .inl g;exact .inr (Vz (p i k hi z) (.inr (.inr f)) F g)
  have L:=g (zX2 (by omega) (Vx (hk.imp id And.left)))
  have R:Sim.nbF (iC ft j)=true:=dP1 fun i hi=>by
   obtain⟨k,z,P⟩:=q i hi;have S:=L i k z;rcases p i k hi z with f|f;exact .inl (by rw[f])
   match k,P,S,f with
   |0,_,_,f=>exact .inl (by rw[f])
   |1,_,_,f=>exact .inl f.2.2
   |2,_,_,f=>exact .inl f.2.2
   |3,_,_,f=>exact .inr (by rw[f])
   |4,_,S,_=>exact absurd rfl S
   |5,_,_,f=>exact .inl f
   |6,_,_,f=>exact .inl f
   |7,_,_,f=>exact .inr f.2.2
   |8,_,_,f=>exact .inr f.2.2.2
  refine⟨max D D2,fun d hd=>?_⟩;simp only[eN,hw,zT2,he];rw[zB2 (by rw[hf];omega),yY2 hf,R,G,u d (by omega)];simp only;have:=B d (by omega);rw[iC,m]at this;rw[zZ2,show j+(os.length+1)=j+1+os.length by omega];exact this
def Pm {ks before} (h:Kz ks before=true):∀i l k k',i<l->ks[i]? =some k->ks[l]? =some k'->(before.getD l 0).testBit i=true\/rW k k'=true:=by
 intro i l k k' a hi hl;simp only[Kz,yW2,List.mem_range,zN2]at h;have:=h l (yT2.1 hl).1 i a;simpa[List.getD,hi,hl]using this
def dR1 (ks:aA Nat):Bool:=ks.all fun k=> !(Nat.beq k 4)
def Ad {ks} (h:dR1 ks=true):∀(i k:Nat),ks[i]? =some k->k≠4:=fun i k hk=>by
 have:=yW2.1 h k (zC2 hk)
 exact fun e=>by subst e;simp at this
def Tr.draw (e:dr≠0) (h:Tr T N dr lim os σ fs τ) (p:Kz (os.map fun o=>kR N dr o.k) before=true) (g:5<=dr->dR1 (os.map fun o=>kR N dr o.k)=true):
  ∃D,∀d,D<=d->∃f,eN T (exec T d) lim before os 0 [] σ=some (τ,f)/\Sim.drawOK before f f.length=true:=by
 let ft:Nat->Foot:=fun i=>fs.getD i {}
 have b:∀i,i<fs.length->fs[i]? =some (ft i):=fun i hi=>by simp[ft,hi]
 obtain⟨hl,a⟩:=h.feet e;have sp:=Pm p;have c:∀(i:Nat) (o:Sim.Op1),os[i]? =some o->(os.map fun o=>kR N dr o.k)[i]? =some (kR N dr o.k):=fun i o n=>by simp[n]
 obtain⟨D,s⟩:=Tr.foot e (before:=before) (ks:=os.map fun o=>kR N dr o.k) h 0 ft (fun i hi=>by rw[aQ3];exact b i hi) (fun i o n=>by rw[aQ3];exact c i o n)
  (fun i l k k' m h1 h2 _=>sp i l k k' m h1 h2) (fun i k hi=>by omega) (fun i hi=>by omega) (fun r=>Ad (g r))
 refine⟨D,fun d hd=>⟨_,s d hd,?_⟩⟩;rw[aQ3,Sim.revF_length];refine Ac (fun j t i hi=>?_);have q:os[j]? =some os[j]:=by simp
 have oi:os[i]? =some (os[i]'(by omega)):=by simp
 rcases sp i j _ _ hi (c i _ oi) (c j _ q)with h1|h1;exact .inl h1;right;exact Iw (qC _ _ _) (qC _ _ _) h1 (a i _ _ oi (b i (by omega))) (a j _ _ q (b j (by omega)))
def Te (o:Sim.Op1) (a:Nat):Bool:=match o.k,o.xs with
 |.loadS,[.t b]=>Nat.beq b a
 |.loadA _,[.t b]=>Nat.beq b a
 |.slc ..,.t b::_=>Nat.beq b a
 |_,_=>false
def tkM (o:Sim.Op1):Bool:=match o.k with
 |.buildSl .. |.append .. =>true
 |_=>false
def Yt (o:Sim.Op1) (a:Nat):Bool:=match o.k,o.xs with
 |.store _,[.t b,_]=>Nat.beq b a
 |.mapup ..,[.t b,_,_]=>Nat.beq b a
 |_,_=>false
def Wa (o:Sim.Op1) (a:Nat):Bool:=match o.k,o.dst with
 |.buildSl ..,some d=>Nat.beq d a
 |.append ..,some d=>Nat.beq d a
 |_,_=>false
def sQ (a:Nat) (o:Sim.Op1):Bool:=match o.dst with
 |some d=> !Nat.beq d a
 |none=>true
def dS1 (o:Sim.Op1) (d:Nat):aB Nat:=match o.k,o.xs,o.dst,o.guard with
 |.append ..,.t b::_,some d',none=>if Nat.beq b d=true then some d' else none
 |_,_,_,_=>none
def vM:aA Sim.Op1->Nat->Nat->Bool
 |[],d,a=>Nat.beq d a
 |o::os,d,a=>(sQ d o&&vM os d a)||(match dS1 o d with|some d'=>vM os d' a|none=>false)
def tkL (os:aA Sim.Op1) (o:Sim.Op1) (i a:Nat):Bool:=match o.dst with
 |some d=>Wa o d&&vM (os.drop (i+1)) d a
 |none=>false
def tkS (o:Sim.Op1) (a:Nat):Bool:=match o.k,o.dst with
 |.slc ..,some d=>Nat.beq d a
 |_,_=>false
def Wb (os:aA Sim.Op1) (p:Nat×Nat×Nat×Nat):Bool:=match os[p.1]?,os[p.2.1]? with
 |some o,some q=>jO o.k&&(Te q p.2.2.2&&(os.drop p.2.1).all (sQ p.2.2.2))
 |_,_=>false
def Wc (os:aA Sim.Op1) (p:Nat×Nat×Nat×Nat):Bool:=match os[p.1]?,os[p.2.1]? with
 |some o,some q=>((os.drop p.2.1).all (sQ p.2.2.2)&&((Te o p.2.2.1&&(os.drop p.1).all (sQ p.2.2.1)&&Yt q p.2.2.2)||(Wa o p.2.2.1&&(os.drop (p.1+1)).all (sQ p.2.2.1)&&Te q p.2.2.2)||(Nat.beq p.2.2.1 p.2.2.2&&tkM o&&Te q p.2.2.2)||(tkL os o p.1 p.2.2.1&&Te q p.2.2.2)))||(Te o p.2.2.1&&(os.drop p.1).all (sQ p.2.2.1)&&(Wa q p.2.2.2&&(os.drop (p.2.1+1)).all (sQ p.2.2.2)))||(tkS o p.2.2.1&&(os.drop (p.1+1)).all (sQ p.2.2.1)&&(Yt q p.2.2.2&&(os.drop p.2.1).all (sQ p.2.2.2)))
 |_,_=>false
def Yu (os:aA Sim.Op1) (p:Nat×Nat×Nat×Nat):Bool:=bif Nat.beq p.2.2.1 999999 then Wb os p else Wc os p
def Wd (ks before:aA Nat) (ex:aA (Nat×Nat×Nat×Nat)):Bool:=
 (List.range ks.length).all fun j=>(List.range j).all fun i=>(before.getD j 0).testBit i||rW (ks.getD i 4) (ks.getD j 4)||ex.any fun p=>Nat.beq p.1 i&&Nat.beq p.2.1 j
def nI {t} {o} {a} {v} (h:sQ a o=true):(put t o.dst v)[a]? =t[a]? :=by
 unfold sQ at h;unfold put;split;rename_i d hd;rw[hd]at h;simp only[zK2,aW,aA3]at h;rw[zI2 h];rfl
def Tr.keep {os} {σ τ} {fs} (h:Tr T N dr lim os σ fs τ) {a} (b:os.all (sQ a)=true):τ.t[a]? =σ.t[a]? :=by
 induction h with
 |nil=>rfl
 |skip hw h ih=>simp only[aR3,yS2]at b;rw[ih b.2,nI b.1]
 |op hw he hc hd h ih=>simp only[aR3,yS2]at b;rw[ih b.2,nI b.1]
 |call hw he hc hk hf hs h ih=>simp only[aR3,yS2]at b;rw[ih b.2,nI b.1]
 |ncall hw he hc hf hk hs hn h ih=>simp only[aR3,yS2]at b;rw[ih b.2,nI b.1]
 |ycall hw he hc hk hf hs hn h ih=>simp only[aR3,yS2]at b;rw[ih b.2,nI b.1]
def xV1 {L} {n} {o} {a} {xs} {out} (hk:Yt o a=true) (h:doOp L lim n o.k xs=some out):out.new=none:=by
 unfold Yt at hk;split at hk
 .rename_i h1 h2
  rw[h1]at h;unfold doOp at h
  repeat' split at h
  all_goals first|(cases h;done)|(cases h;rfl)|simp_all
 .rename_i h1 h2
  rw[h1]at h;unfold doOp at h
  repeat' split at h
  all_goals first|(cases h;done)|(cases h;rfl)|simp_all
 .cases hk
theorem Yv {t} {b} {r} {xs} (h:Sim.evs t (.t b::r)=some xs):∃y ys,xs=y::ys/\t[b]? =some y/\Sim.evs t r=some ys:=by
 simp only[Sim.evs,Sim.IX.ev]at h;split at h
 grind
 cases h
def uC {s:Hp} {out:Out} {x:AO} (h:out.new=some x):List.range' s.n ((out.apply s).n-s.n)=[s.n]:=by
 have:(out.apply s).n=s.n+1:=by unfold Out.apply;rw[h]
 rw[this,Nat.add_sub_cancel_left];rfl
def dU1 (f:Foot) (τ:St) (a:Nat):Prop:=f={}\/∀y,τ.t[a]? =some y->f.rd=Sim.idOf y/\f.wr=[]/\f.al=[]/\f.all=0
def xW1 (f:Foot) (τ:St) (a:Nat):Prop:=f={}\/∀y,τ.t[a]? =some y->f.wr=Sim.idOf y/\f.rd=[]/\f.al=[]/\f.all=0
def kH1 (f:Foot) (τ:St) (a:Nat):Prop:=f={}\/∀y,τ.t[a]? =some y->f.all=0/\(∀x∈f.wr,x∈Sim.idOf y)/\∀x∈f.al,x∈Sim.idOf y
def Tf {L} {n ty esz} {s} {new} {out} (h:Sim.appendTo L lim n ty esz s new=some out):
  (∀x∈Sim.idOf s,x∈Sim.idOf out.v)/\(out.new=none\/Sim.idOf out.v=[n]):=by
 unfold Sim.appendTo at h
 repeat' split at h
 all_goals first|(cases h;done)|(cases h;exact⟨fun x a=>a,.inl rfl⟩)|(cases h;exact⟨fun x a=>by simp[Sim.idOf]at a,.inr rfl⟩)
theorem La {L} {n} {o} {a} {xs} {out} (hk:Wa o a=true) (h:doOp L lim n o.k xs=some out):
  (foot T o.k xs).all=0/\(∀x∈(foot T o.k xs).wr,x∈Sim.idOf out.v)/\(out.new=none\/Sim.idOf out.v=[n])/\o.dst=some a:=by
 unfold Wa at hk;split at hk;rename_i d h1 h2;rw[h1]at h ⊢;rw[h2,zM2 hk];refine⟨by rcases xs with _|⟨p,_|⟨q,_|⟨r,t⟩⟩⟩<;>rfl,fun x e=>by rcases xs with _|⟨p,_|⟨q,_|⟨r,t⟩⟩⟩<;>simp[foot]at e,.inr ?_,rfl⟩;unfold doOp at h;simp only[yV2]at h;obtain⟨cs,_,rfl⟩:=h;rfl;rename_i d h1 h2;rw[h1]at h ⊢;rcases xs with _|⟨p,_|⟨q,_|⟨r,t⟩⟩⟩
 simp[doOp]at h;simp[doOp]at h;simp only[doOp]at h;split at h;split at h;rename_i o' c;have:=Tf c;have b:out=o':=by grind
 subst b;exact⟨rfl,this.1,this.2,by rw[h2,zM2 hk]⟩;cases h;cases h;simp[doOp]at h;cases hk
def uR1 {o:Sim.Op1} {xs:aA AV} (hk:Te o a=true) (he:Sim.evs σ.t o.xs=some xs):∃y,σ.t[a]? =some y/\foot T o.k xs={rd:=Sim.idOf y}/\kR N dr o.k<=1:=by
 unfold Te at hk;split at hk;rename_i b h1 h2;rw[h2]at he;obtain⟨y,ys,rfl,d,c⟩:=Yv he;simp only[Sim.evs,yZ2]at c;subst c;rw[h1,<-zM2 hk];exact⟨y,d,rfl,by simp[kR]⟩;rename_i b h1 h2;rw[h2]at he;obtain⟨y,ys,rfl,d,c⟩:=Yv he;simp only[Sim.evs,yZ2]at c;subst c;rw[h1,<-zM2 hk];exact⟨y,d,rfl,by simp[kR]⟩;rename_i b _ h1 h2;rw[h2]at he;obtain⟨y,ys,rfl,d,c⟩:=Yv he;rw[h1,<-zM2 hk];exact⟨y,d,rfl,by simp[kR]⟩;cases hk
def uS1 {o:Sim.Op1} {xs:aA AV} (hk:Yt o a=true) (he:Sim.evs σ.t o.xs=some xs):∃y,σ.t[a]? =some y/\foot T o.k xs={wr:=Sim.idOf y}:=by
 unfold Yt at hk;split at hk;rename_i b c h1 h2;rw[h2]at he;obtain⟨y,ys,rfl,e,f⟩:=Yv he;rw[h1,<-zM2 hk];exact⟨y,e,rfl⟩;rename_i b c d h1 h2;rw[h2]at he;obtain⟨y,ys,rfl,e,f⟩:=Yv he;rw[h1,<-zM2 hk];exact⟨y,e,rfl⟩;cases hk
theorem mV {o} {a} (h:Te o a=true\/Yt o a=true\/Wa o a=true):jO o.k=false/\∀xs,(foot T o.k xs).all=0:=by
 have key:∀k:gC,(k=.loadS\/(∃n,k=.loadA n)\/(∃n,k=.store n)\/(∃a b,k=.mapup a b)\/(∃a b c d e,k=.buildSl a b c d e)\/(∃a b c d e,k=.append a b c d e)\/∃a b c d,k=.slc a b c d)->jO k=false/\∀xs,(foot T k xs).all=0:=by
  intro k hk
  rcases hk with rfl|⟨_,rfl⟩|⟨_,rfl⟩|⟨_,_,rfl⟩|⟨_,_,_,_,_,rfl⟩|⟨_,_,_,_,_,rfl⟩|⟨_,_,_,_,rfl⟩<;>
   exact⟨rfl,fun xs=>by rcases xs with _|⟨p,_|⟨q,_|⟨r,t⟩⟩⟩<;>rfl⟩
 refine key _ ?_;rcases h with h|h|h;unfold Te at h;split at h
 grind
 grind
 grind
 cases h;unfold Yt at h;split at h
 grind
 grind
 cases h;unfold Wa at h;split at h
 grind
 grind
 cases h
theorem Tr.touch (h:Tr T N dr lim os σ fs τ):∀i o f a,os[i]? =some o->fs[i]? =some f->
  (Te o a=true->(os.drop i).all (sQ a)=true->dU1 f τ a)/\(Yt o a=true->(os.drop i).all (sQ a)=true->xW1 f τ a)/\(Wa o a=true->(os.drop (i+1)).all (sQ a)=true->kH1 f τ a):=by
 induction h with
 |nil=>intro i o f a h;simp at h
 |skip hw h ih=>
  intro i o f a h1 h2;cases i with
  |zero=>simp at h1 h2;subst h1;subst h2;exact⟨fun _ _=>.inl rfl,fun _ _=>.inl rfl,fun _ _=>.inl rfl⟩
  |succ i=>simp at h1 h2;simpa using ih i o f a h1 h2
 |@op o os σ τ fs xs out hw he hc hd h ih=>
  intro i o' f a h1 h2;cases i with
  |zero=>
   simp at h1 h2;subst h1;subst h2;refine⟨fun hk hb=>?_,fun hk hb=>?_,fun hk hb=>?_⟩;simp only[aO3,aR3,yS2]at hb;obtain⟨y,k,d,e⟩:=uR1 (T:=T) (N:=N) (dr:=dr) hk he;refine .inr (fun z b=>?_);rw[h.keep hb.2,nI hb.1,k]at b;cases b;exact⟨by rw[d],by rw[d],tP (rR1 hd e),by rw[d]⟩;simp only[aO3,aR3,yS2]at hb;obtain⟨y,k,d⟩:=uS1 (T:=T) hk he;refine .inr (fun z b=>?_);rw[h.keep hb.2,nI hb.1,k]at b;cases b;exact⟨by rw[d],by rw[d],tP (xV1 hk hd),by rw[d]⟩;obtain⟨k,d,e,l⟩:=La (T:=T) hk hd;have hb:os.all (sQ a)=true:=by simpa using hb
   have j:∀z,(put σ.t o.dst out.v)[a]? =some z->z=out.v:=fun z b=>by
    rw[l]at b;simp only[put,zS2]at b;split at b
    grind
    grind
   refine .inr (fun z b=>?_);rw[h.keep hb]at b;have:=j z b;subst this;refine⟨k,d,fun x c=>?_⟩;rcases e with e|e;have:=tP (s:=σ.s) e;simp only at c;rw[this]at c;simp at c;cases hn:out.new with
   |none=>
    have:=tP (s:=σ.s) hn;simp only at c;rw[this]at c;simp at c
   |some w=>
    simp only at c;rw[uC hn]at c;rw[e];exact c
  |succ i=>simp at h1 h2;simpa using ih i o' f a h1 h2
 |@call o os σ τ fs xs v hw he hc hk hf hs h ih=>
  intro i o' f a h1 h2;cases i with
  |zero=>
   simp at h1 h2;subst h1;subst h2;have no:¬(Te o a=true\/Yt o a=true\/Wa o a=true):=fun g=>by have:=(mV (T:=T) g).1;rw[hc]at this;cases this
   exact⟨fun hk _=>absurd (.inl hk) no,fun hk _=>absurd (.inr (.inl hk)) no,fun hk _=>absurd (.inr (.inr hk)) no⟩
  |succ i=>simp at h1 h2;simpa using ih i o' f a h1 h2
 |@ncall o os σ τ fs xs v s' hw he hc hf hk hs hn h ih=>
  intro i o' f a h1 h2;cases i with
  |zero=>
   simp at h1 h2;subst h1;subst h2;have no:¬(Te o a=true\/Yt o a=true\/Wa o a=true):=fun g=>by have:=(mV (T:=T) g).1;rw[hc]at this;cases this
   exact⟨fun hk _=>absurd (.inl hk) no,fun hk _=>absurd (.inr (.inl hk)) no,fun hk _=>absurd (.inr (.inr hk)) no⟩
  |succ i=>simp at h1 h2;simpa using ih i o' f a h1 h2
 |@ycall o os σ τ fs xs v s' w hw he hc hk hf hs hn h ih=>
  intro i o' f a h1 h2;cases i with
  |zero=>
   simp at h1 h2;subst h1;subst h2;have no:¬(Te o a=true\/Yt o a=true\/Wa o a=true):=fun g=>by have:=(mV (T:=T) g).1;rw[hc]at this;cases this
   exact⟨fun hk _=>absurd (.inl hk) no,fun hk _=>absurd (.inr (.inl hk)) no,fun hk _=>absurd (.inr (.inr hk)) no⟩
  |succ i=>simp at h1 h2;simpa using ih i o' f a h1 h2
def kI1 {L} {n} {e} {lo hi mx} {xs} {out} (h:doOp L lim n (.slc e lo hi mx) xs=some out):∃y,foot T (.slc e lo hi mx) xs={rd:=Sim.idOf y}/\Sim.idOf out.v=Sim.idOf y/\out.new=none:=by
 cases xs with
 |nil=>simp[doOp,Sim.sliceOp]at h
 |cons y ys=>
  refine⟨y,rfl,?_⟩;have h2:(Sim.sliceOp L e lo hi mx (y::ys)).map (fun v=>({v:=v}:Out))=some out:=h;clear h;rw[yV2]at h2;obtain⟨v,a,rfl⟩:=h2;refine⟨?_,rfl⟩;cases y<;>simp only[Sim.sliceOp]at a<;>(repeat' split at a)<;>first|(cases a;done)|(cases a;rfl)|(simp at a;done)|(simp at a;subst a;simp_all[Sim.idOf])
theorem Tr.touchS {os} {σ τ} {fs} (h:Tr T N dr lim os σ fs τ):∀i o f a,os[i]? =some o->fs[i]? =some f->tkS o a=true->(os.drop (i+1)).all (sQ a)=true->dU1 f τ a:=by
 induction h with
 |nil=>intro i o f a h;simp at h
 |skip hw h ih=>
  intro i o f a h1 h2 hk hb;cases i with
  |zero=>simp at h1 h2;subst h1;subst h2;exact .inl rfl
  |succ i=>simp at h1 h2;exact ih i o f a h1 h2 hk (by simpa using hb)
 |@op o os σ τ fs xs out hw he hc hd h ih=>
  intro i o' f a h1 h2 hk hb;cases i with
  |zero=>
   simp at h1 h2;subst h1;subst h2;unfold tkS at hk;split at hk;rename_i d q1 q2;rw[q1]at hd;obtain⟨y,e,g,j⟩:=kI1 (T:=T) hd;have hb:os.all (sQ a)=true:=by simpa using hb
   have c:∀z,(put σ.t o.dst out.v)[a]? =some z->z=out.v:=fun z b=>by
    rw[q2,zM2 hk]at b;simp only[put,zS2]at b;split at b
    grind
    grind
   refine .inr (fun z b=>?_);rw[h.keep hb]at b;have:=c z b;subst this;rw[q1];exact⟨by rw[e,g],by rw[e],tP j,by rw[e]⟩;cases hk
  |succ i=>simp at h1 h2;exact ih i o' f a h1 h2 hk (by simpa using hb)
 |@call o os σ τ fs xs v hw he hc hk' hf hs h ih=>
  intro i o' f a h1 h2 hk hb;cases i with
  |zero=>
   simp at h1 h2;subst h1;subst h2;unfold tkS at hk;split at hk;rename_i d q1 q2;rw[q1]at hc;cases hc;cases hk
  |succ i=>simp at h1 h2;exact ih i o' f a h1 h2 hk (by simpa using hb)
 |@ncall o os σ τ fs xs v s' hw he hc hf hk' hs hn h ih=>
  intro i o' f a h1 h2 hk hb;cases i with
  |zero=>
   simp at h1 h2;subst h1;subst h2;unfold tkS at hk;split at hk;rename_i d q1 q2;rw[q1]at hc;cases hc;cases hk
  |succ i=>simp at h1 h2;exact ih i o' f a h1 h2 hk (by simpa using hb)
 |@ycall o os σ τ fs xs v s' w hw he hc hk' hf hs hn h ih=>
  intro i o' f a h1 h2 hk hb;cases i with
  |zero=>
   simp at h1 h2;subst h1;subst h2;unfold tkS at hk;split at hk;rename_i d q1 q2;rw[q1]at hc;cases hc;cases hk
  |succ i=>simp at h1 h2;exact ih i o' f a h1 h2 hk (by simpa using hb)
def pB {o} {d d'} (h:dS1 o d=some d'):o.guard=none/\o.dst=some d'/\Wa o d'=true/\∃ty es b zero g r,o.k=.append ty es b zero g/\o.xs=.t d::r:=by
 unfold dS1 at h;split at h;rename_i h1 h2 a c;split at h;rename_i hb;cases h;refine⟨c,a,?_,_,_,_,_,_,_,h1,by rw[h2,zM2 hb]⟩;unfold Wa;rw[h1,a];exact Nat.beq_refl _;cases h;cases h
theorem Tr.flow {os} {σ τ} {fs} (h:Tr T N dr lim os σ fs τ):∀d a,vM os d a=true->∀z,τ.t[a]? =some z->∃y,σ.t[d]? =some y/\∀x∈Sim.idOf y,x∈Sim.idOf z:=by
 induction h with
 |nil=>
  intro d a hf z c;simp only[vM]at hf;rw[zM2 hf];exact⟨z,c,fun x f=>f⟩
 |@skip o os σ τ fs hw h ih=>
  intro d a hf z c;simp only[vM,zN2,yS2]at hf;rcases hf with hf|hf;obtain⟨y,h1,h2⟩:=ih d a hf.2 z c;exact⟨y,by rw[<-h1];exact(nI hf.1).symm,h2⟩;split at hf;rename_i e hs;rw[(pB hs).1]at hw;simp[Sim.wanted]at hw;cases hf
 |@op o os σ τ fs xs out hw he hc hd h ih=>
  intro d a hf z c;simp only[vM,zN2,yS2]at hf;rcases hf with hf|hf;obtain⟨y,h1,h2⟩:=ih d a hf.2 z c;exact⟨y,by rw[<-h1];exact(nI hf.1).symm,h2⟩;split at hf;rename_i e hs;obtain⟨q1,q2,q3,ty,es,b,zero,g,r,q4,q5⟩:=pB hs;obtain⟨k,h1,h2⟩:=ih e a hf z c;obtain⟨l,j,m,n⟩:=La (T:=T) q3 hd
  have hv:k=out.v:=by
   have c:=h1;simp only at c;rw[q2]at c;simp only[put,zS2]at c;split at c
   grind
   grind
  subst hv;rw[q5]at he;obtain⟨y,ys,rfl,i,e2⟩:=Yv he;refine⟨y,i,fun x f=>h2 x (j x ?_)⟩;rw[q4]at hd ⊢;rcases ys with _|⟨w,_|⟨w2,ws⟩⟩
  simp[doOp]at hd;exact f;simp[doOp]at hd;cases hf
 |@call o os σ τ fs xs v hw he hc hk hff hs h ih=>
  intro d a hf z c;simp only[vM,zN2,yS2]at hf;rcases hf with hf|hf;obtain⟨y,h1,h2⟩:=ih d a hf.2 z c;exact⟨y,by rw[<-h1];exact(nI hf.1).symm,h2⟩;split at hf;rename_i e hs;have:=(mV (T:=T) (.inr (.inr (pB hs).2.2.1))).1;rw[hc]at this;cases this;cases hf
 |@ncall o os σ τ fs xs v s' hw he hc hff hk hs hn h ih=>
  intro d a hf z c;simp only[vM,zN2,yS2]at hf;rcases hf with hf|hf;obtain⟨y,h1,h2⟩:=ih d a hf.2 z c;exact⟨y,by rw[<-h1];exact(nI hf.1).symm,h2⟩;split at hf;rename_i e hs;have:=(mV (T:=T) (.inr (.inr (pB hs).2.2.1))).1;rw[hc]at this;cases this;cases hf
 |@ycall o os σ τ fs xs v s' w hw he hc hk hff hs hn h ih=>
  intro d a hf z c;simp only[vM,zN2,yS2]at hf;rcases hf with hf|hf;obtain⟨y,h1,h2⟩:=ih d a hf.2 z c;exact⟨y,by rw[<-h1];exact(nI hf.1).symm,h2⟩;split at hf;rename_i e hs;have:=(mV (T:=T) (.inr (.inr (pB hs).2.2.1))).1;rw[hc]at this;cases this;cases hf
theorem Tr.touchL (h:Tr T N dr lim os σ fs τ):∀i o f a,os[i]? =some o->fs[i]? =some f->tkL os o i a=true->kH1 f τ a:=by
 induction h with
 |nil=>intro i o f a h;simp at h
 |skip hw h ih=>
  intro i o f a h1 h2 hk;cases i with
  |zero=>simp at h1 h2;subst h1;subst h2;exact .inl rfl
  |succ i=>simp at h1 h2;exact ih i o f a h1 h2 (by simpa[tkL]using hk)
 |@op o os σ τ fs xs out hw he hc hd h ih=>
  intro i o' f a h1 h2 hk;cases i with
  |zero=>
   simp at h1 h2;subst h1;subst h2;unfold tkL at hk;split at hk;rename_i d g;simp only[yS2,List.drop_succ_cons,aO3]at hk;obtain⟨l,m,j,p⟩:=La (T:=T) hk.1 hd;refine .inr (fun z e=>?_);obtain⟨y,n,k⟩:=h.flow d a hk.2 z e
   have hv:y=out.v:=by
    have e:=n;simp only at e;rw[g]at e;simp only[put,zS2]at e;split at e
    grind
    grind
   subst hv;refine⟨l,fun x c=>k x (m x c),fun x c=>k x ?_⟩;rcases j with j|j;have:=tP (s:=σ.s) j;simp only at c;rw[this]at c;simp at c;cases hn:out.new with
   |none=>
    have:=tP (s:=σ.s) hn;simp only at c;rw[this]at c;simp at c
   |some w=>
    simp only at c;rw[uC hn]at c;rw[j];exact c
   cases hk
  |succ i=>simp at h1 h2;exact ih i o' f a h1 h2 (by simpa[tkL]using hk)
 |@call o os σ τ fs xs v hw he hc hk hf hs h ih=>
  intro i o' f a h1 h2 b;cases i with
  |zero=>
   simp at h1 h2;subst h1;subst h2;unfold tkL at b;split at b;simp only[yS2]at b;have:=(mV (T:=T) (.inr (.inr b.1))).1;rw[hc]at this;cases this;cases b
  |succ i=>simp at h1 h2;exact ih i o' f a h1 h2 (by simpa[tkL]using b)
 |@ncall o os σ τ fs xs v s' hw he hc hf hk hs hn h ih=>
  intro i o' f a h1 h2 b;cases i with
  |zero=>
   simp at h1 h2;subst h1;subst h2;unfold tkL at b;split at b;simp only[yS2]at b;have:=(mV (T:=T) (.inr (.inr b.1))).1;rw[hc]at this;cases this;cases b
  |succ i=>simp at h1 h2;exact ih i o' f a h1 h2 (by simpa[tkL]using b)
 |@ycall o os σ τ fs xs v s' w hw he hc hk hf hs hn h ih=>
  intro i o' f a h1 h2 b;cases i with
  |zero=>
   simp at h1 h2;subst h1;subst h2;unfold tkL at b;split at b;simp only[yS2]at b;have:=(mV (T:=T) (.inr (.inr b.1))).1;rw[hc]at this;cases this;cases b
  |succ i=>simp at h1 h2;exact ih i o' f a h1 h2 (by simpa[tkL]using b)
def Pn (τ:St) (p:Nat×Nat×Nat×Nat):Prop:=∃y z,τ.t[p.2.2.1]? =some y/\τ.t[p.2.2.2]? =some z/\∀x∈Sim.idOf y,x∉Sim.idOf z
def iN2 (σ τ:St) (p:Nat×Nat×Nat×Nat):Prop:=∃z,τ.t[p.2.2.2]? =some z/\∀x∈Sim.idOf z,x<σ.s.n
theorem Tr.alge {os} {σ τ} {fs} (h:Tr T N dr lim os σ fs τ):∀f∈fs,∀x∈f.al,σ.s.n<=x:=by
 induction h with
 |nil=>intro f hf;simp at hf
 |skip hw h ih=>
  intro f hf x a;rcases zF2.1 hf with rfl|hf;simp at a;exact ih f hf x a
 |@op o os σ τ fs xs out hw he hc hd h ih=>
  intro f hf x a;rcases zF2.1 hf with rfl|hf
  grind
  have:=ih f hf x a
  have h2:σ.s.n<=(out.apply σ.s).n:=by
   unfold Out.apply;cases out.new<;>simp
  exact zX2 h2 this
 |call hw he hc hk hf hs h ih=>
  intro f hf x a;rcases zF2.1 hf with rfl|hf;simp at a;exact ih f hf x a
 |@ncall o os σ τ fs xs v s' hw he hc hf hk hs hn h ih=>
  intro f hf x a;rcases zF2.1 hf with rfl|hf
  grind
  grind
 |@ycall o os σ τ fs xs v s' w hw he hc hk hf hs hn h ih=>
  intro f hf x a;rcases zF2.1 hf with rfl|hf
  grind
  grind
def nT {f g} {τ} {p} (h:(dU1 f τ p.2.2.1/\xW1 g τ p.2.2.2)\/(kH1 f τ p.2.2.1/\dU1 g τ p.2.2.2)) (m:Pn τ p):Sim.compat0 f g=true:=by
 obtain⟨y,z,hy,l,hd⟩:=m;rcases h with⟨h1,h2⟩|⟨h1,h2⟩
 rcases h2 with rfl|h2;rcases h1 with rfl|h1;rfl;obtain⟨a,b,c,d⟩:=h1 y hy;simp[Sim.compat0,b,c,d];obtain⟨a',b',k,j⟩:=h2 z l;rcases h1 with rfl|h1;simp[Sim.compat0,j];obtain⟨a,b,c,d⟩:=h1 y hy;have:∀x∈g.wr,x∉f.rd:=fun x i e=>by rw[a]at e;rw[a']at i;exact hd x e i
 simpa[Sim.compat0,b,c,d,b',k,j]using this;rcases h2 with rfl|h2;rcases h1 with rfl|h1;rfl;obtain⟨a,b,c⟩:=h1 y hy;simp[Sim.compat0,a];obtain⟨a',b',k,j⟩:=h2 z l;rcases h1 with rfl|h1;simp[Sim.compat0,j];obtain⟨a,b,c⟩:=h1 y hy;have n:∀x∈f.wr,x∉g.rd:=fun x i e=>by rw[a']at e;exact hd x (b x i) e
 have o:∀x∈f.al,x∉g.rd:=fun x i e=>by rw[a']at e;exact hd x (c x i) e
 simpa[Sim.compat0,a,b',k,j]using And.intro n o
def Yw {f g} {τ} {p} (h1:dU1 f τ p.2.2.1) (h2:kH1 g τ p.2.2.2) (j:Pn τ p):Sim.compat0 f g=true:=by
 obtain⟨y,z,hy,h,hd⟩:=j;rcases h1 with rfl|h1;rcases h2 with rfl|h2;rfl;obtain⟨a',b',i⟩:=h2 z h;simp[Sim.compat0,a'];obtain⟨a,b,c,d⟩:=h1 y hy;rcases h2 with rfl|h2;simp[Sim.compat0,b,c,d];obtain⟨a',b',i⟩:=h2 z h;have:∀x∈g.wr,x∉f.rd:=fun x k e=>by rw[a]at e;exact hd x e (b' x k)
 simpa[Sim.compat0,b,c,d,a']using this
theorem Tg {ks before} {ex} (h:Wd ks before ex=true):∀i l k k',i<l->ks[i]? =some k->ks[l]? =some k'->((before.getD l 0).testBit i=true\/rW k k'=true)\/∃p∈ex,p.1=i/\p.2.1=l:=by
 intro i l k k' a hi hl;simp only[Wd,yW2,List.mem_range,zN2,List.any_eq_true,yS2]at h;rcases h l (yT2.1 hl).1 i a with h1|⟨p,h1,h2,h3⟩
 grind
 exact .inr ⟨p,h1,zM2 h2,zM2 h3⟩
def Tr.drawX (E:dr≠0) {ex:aA (Nat×Nat×Nat×Nat)} (h:Tr T N dr lim os σ fs τ) (W:Wd (os.map fun o=>kR N dr o.k) before ex=true)
  (P:ex.all (Yu os)=true) (g:∀p∈ex,if p.2.2.1=999999 then(5<=dr/\(os.map fun o=>kR N dr o.k)[p.1]? ≠some 7)/\iN2 σ τ p else Pn τ p) (C:5<=dr->dR1 (os.map fun o=>kR N dr o.k)=true):
  ∃D,∀d,D<=d->∃J,eN T (exec T d) lim before os 0 [] σ=some (τ,J)/\Sim.drawOK before J J.length=true:=by
 let ft:Nat->Foot:=fun i=>fs.getD i {}
 have m:∀i,i<fs.length->fs[i]? =some (ft i):=fun i hi=>by simp[ft,hi]
 obtain⟨hl,r⟩:=h.feet E;have sp:=Tg W;have t:∀(i:Nat) (o:Sim.Op1),os[i]? =some o->(os.map fun o=>kR N dr o.k)[i]? =some (kR N dr o.k):=fun i o V=>by simp[V]
 have A:∀p∈ex,∃o q,os[p.1]? =some o/\os[p.2.1]? =some q/\Yu os p=true:=by
  intro p hp;have:=yW2.1 P p hp;have h2:=this;unfold Yu at h2;cases hb:Nat.beq p.2.2.1 999999 with
  |true=>
   rw[hb,zE2]at h2;unfold Wb at h2;split at h2
   .rename_i o q s K;exact⟨o,q,s,K,this⟩
   .cases h2
  |false=>
   rw[hb,zP2]at h2;unfold Wc at h2;split at h2
   .rename_i o q s K;exact⟨o,q,s,K,this⟩
   .cases h2
 obtain⟨D,hD⟩:=Tr.foot E (before:=before) (ks:=os.map fun o=>kR N dr o.k) h 0 ft (fun i hi=>by rw[aQ3];exact m i hi) (fun i o V=>by rw[aQ3];exact t i o V)
  (fun i l k k' R h1 h2 S=>by
   rcases sp i l k k' R h1 h2 with s|⟨p,hp,rfl,rfl⟩
   .exact s
   .exfalso
    obtain⟨o,q,u,e2,f⟩:=A p hp;rw[t _ _ e2]at h2;cases h2
    have hh:Te q p.2.2.2=true\/Yt q p.2.2.2=true\/Wa q p.2.2.2=true:=by
     unfold Yu at f;cases hb:Nat.beq p.2.2.1 999999 with
     |true=>
      rw[hb,zE2]at f;unfold Wb at f;rw[u,e2]at f;simp only[yS2]at f;exact .inl f.2.1
     |false=>
     rw[hb,zP2]at f;unfold Wc at f;rw[u,e2]at f;simp only[yS2,zN2]at f;rcases f with(f|f)|f
     .rcases f.2 with((h|h)|h)|h
      .exact .inr (.inl h.2)
      .exact .inl h.2
      .exact .inl h.2
      .exact .inl h.2
     .exact .inr (.inr f.2.1)
     .exact .inr (.inl f.2.1)
    have hc:=(mV (T:=T) hh).1;revert S hc;cases q.k
    case len n=>simp only[kR];cases Nat.beq n 2<;>simp
    all_goals simp[kR,jO]) (fun i k hi=>by omega) (fun i hi=>by omega) (fun L=>Ad (C L))
 refine⟨D,fun d hd=>⟨_,hD d hd,?_⟩⟩;rw[aQ3,Sim.revF_length];refine Ac (fun j hj i hi=>?_);have oj:os[j]? =some os[j]:=by simp
 have oi:os[i]? =some (os[i]'(by omega)):=by simp
 rcases sp i j _ _ hi (t i _ oi) (t j _ oj)with(h1|h1)|⟨p,hp,rfl,rfl⟩
 .exact .inl h1
 .right
  exact Iw (qC _ _ _) (qC _ _ _) h1 (r i _ _ oi (m i (by omega))) (r j _ _ oj (m j (by omega)))
 .right
  obtain⟨o,q,u,e2,f⟩:=A p hp;have g:=g p hp;unfold Yu at f;cases hb:Nat.beq p.2.2.1 999999 with
  |true=>
   rw[hb,zE2]at f;rw[yY2 (zM2 hb)]at g;obtain⟨⟨L,M⟩,z,H,U⟩:=g;unfold Wb at f;rw[u,e2]at f;simp only[yS2]at f;obtain⟨e4,e5,e6⟩:=f;have hf:=r p.1 o _ u (m p.1 (by omega));have hg:=(h.touch p.2.1 q _ p.2.2.2 e2 (m p.2.1 (by omega))).1 e5 e6;have X:=Ad (C L) p.1 _ (t p.1 o u)
   obtain⟨f1,Z,f3⟩|hf0:((ft p.1).rd=[]/\(ft p.1).wr=[]/\(ft p.1).all=1)\/ft p.1={}:=by
    rcases dO1 (N:=N) (dr:=dr) e4 with v|v|v
    .rw [v]at hf
     rcases hf with hf|hf
     .exact .inr hf
     .have hf:ft p.1={all:=1,x:=true}:=hf
      rw[hf];exact .inl ⟨rfl,rfl,rfl⟩
    .exact absurd v X
    .have h8:=qC N dr o.k
     rcases(by omega:kR N dr o.k=7\/kR N dr o.k=8)with v|v
     .exact absurd ((t p.1 o u).trans (by rw[v])) M
     .rw [v]at hf
      rcases hf with hf|hf
      .exact .inr hf
      .exact .inl ⟨hf.1,hf.2.1,hf.2.2.1⟩
   rotate_left
   .rw [hf0];rfl
   .refine jM ?_
    rcases hg with hg|hg
    .rw [hg];simp[Sim.compat0,Z,f3]
    .obtain ⟨a,b,c,d⟩:=hg z H
     have:∀x∈(ft p.1).al,x∉(ft p.2.1).rd:=fun x A G=>by
      rw[a]at G;have h8:=U x G;have h9:=h.alge _ (zC2 (m p.1 (by omega))) x A;omega
     simpa[Sim.compat0,f1,Z,f3,b,c,d]using this
  |false=>
  rw[hb,zP2]at f;rw[zB2 (fun e=>by rw[e]at hb;cases hb)]at g;have g:∀q,q=p->Pn τ q:=fun q hq=>by rw[hq];exact g
  have hp:p=p:=rfl;unfold Wc at f;rw[u,e2]at f;simp only[yS2,zN2]at f;have Y:=h.touch p.1 o _ p.2.2.1 u (m p.1 (by omega));have B:=h.touch p.2.1 q _ p.2.2.2 e2 (m p.2.1 (by omega));rcases f with(f|f)|f
  case inr.false.inr=>exact jM<|nT (.inl ⟨h.touchS p.1 o _ p.2.2.1 u (m p.1 (by omega)) f.1.1 f.1.2,B.2.1 f.2.1 f.2.2⟩) (g p hp)
  case inr.false.inl.inr=>exact jM<|Yw (Y.1 f.1.1 f.1.2) (B.2.2 f.2.1 f.2.2) (g p hp)
  rcases f.2 with((⟨⟨h1,h2⟩,s⟩|⟨⟨h1,h2⟩,s⟩)|⟨⟨h1,h2⟩,s⟩)|⟨h1,s⟩
  .exact jM<|nT (.inl ⟨Y.1 h1 h2,B.2.1 s f.1⟩) (g p hp)
  .exact jM<|nT (.inr ⟨Y.2.2 h1 h2,B.1 s f.1⟩) (g p hp)
  .have O:=zM2 h1
   obtain⟨y,z,hy,H,hd⟩:=g p hp;rw[O]at hy;rw[hy]at H;cases H;have F:Sim.idOf y=[]:=List.eq_nil_iff_forall_not_mem.2 (fun x A=>hd x A A)
   have w:(ft p.1).all=0:=by
    have hf:=r p.1 o _ u (m p.1 (by omega));unfold tkM at h2;unfold pA at hf;split at h2
    .rename_i hk
     rw[hk]at hf;rcases hf with hf|hf
     .rw [hf]
     .exact hf.2.2
    .rename_i hk
     rw[hk]at hf;rcases hf with hf|hf
     .rw [hf]
     .exact hf
    .cases h2
   rcases B.1 s f.1 with hg|hg
   .refine jM ?_
    rw[hg];simp[Sim.compat0,w]
   .obtain ⟨a,b,c,d⟩:=hg y hy
    rw[F]at a;refine jM ?_;simp[Sim.compat0,w,a,b,c,d]
  .exact jM<|nT (.inr ⟨h.touchL p.1 o _ p.2.2.1 u (m p.1 (by omega)) h1,B.1 s f.1⟩) (g p hp)
end
end Go.P
namespace Go.P
open Go.Sim (AV AO Hp fQ upd St IC IX Ex gC CK Wf Out doOp jW exec mapO oB Bu Rn)
variable {A R:Type} {d i j lim n ty:Nat} {xs:aA PV} {ys:aA AV}
def Ci {A:Type} {f:A->aB A}:∀{l},(∀x∈l,f x=some x)->mapO f l=some l
 |[],_=>rfl
 |a::as,h=>by
  have h1:=h a (List.mem_cons_self ..)
  have h2:=Ci (f:=f) (l:=as) (fun x b=>h x (aC3 _ b))
  simp only[mapO,h1,h2]
section
variable {L:Nat->Option AO} {n0:Nat}
def qQ {x} {y} {d} (h:RC true x y):oB L n0 (d+1) y=some y:=by
 cases h<;>rfl
def Lb {Q} {xs} {ys} (h:LR Q xs ys) {y} (hy:y∈ys):∃x,x∈xs/\Q x y:=by
 obtain⟨j,a⟩:=zL2.1 hy;have b:j<xs.length:=by rw[h.1];exact(yT2.1 a).1
 exact⟨xs[j],by simp,h.2 j _ y (by simp) a⟩
def Ix (h:LR (RC true) xs ys):mapO (oB L n0 (d+1)) ys=some ys:=
 Ci fun y hy=>by
  obtain⟨x,_,a⟩:=Lb h hy
  exact qQ a
def kJ1 {rows:aA (aA PV)} {els:aA (aA AV)} (h:RR rows els):mapO (fun row=>mapO (oB L n0 (d+1)) row) els=some els:=
 Ci fun r hr=>by
  obtain⟨j,a⟩:=zL2.1 hr
  have b:j<rows.length:=by rw[h.1];exact(yT2.1 a).1
  exact Ix (h.2 j rows[j] r (by simp) a)
def We {rows} {els} {d e id ver} {bx} {ty} (hn:n0<=id) (a:L id=some (.arr bx ty e ver els)) (hr:RR rows (els.take rows.length)) (b:rows.length<=els.length):
  oB L n0 (d+2) (.sl e id ver 0 rows.length none)=some (.is e (els.take rows.length)):=by
 have hc:n0<=id/\ver=ver/\0+rows.length<=els.length:=⟨hn,rfl,by omega⟩
 show(match L id with
   |some (.arr _ _ e ver' els)=>
    if n0<=id/\ver'=ver/\0+rows.length<=els.length then(mapO (fun row=>mapO (oB L n0 (d+1)) row) ((els.drop 0).take rows.length)).map fun rows=>AV.is e rows else none
   |_=>none)=_
 rw[a];show(if n0<=id/\ver=ver/\0+rows.length<=els.length then(mapO (fun row=>mapO (oB L n0 (d+1)) row) ((els.drop 0).take rows.length)).map fun rows=>AV.is e rows else none)=_
 rw[yY2 hc,aO3,kJ1 hr];rfl
def dV1 {Q Q'} {f} (hf:∀x y,Q x y->∃b,f y=some b/\Q' x b):∀{xs} {ys},LR Q xs ys->∃a,mapO f ys=some a/\LR Q' xs a
 |[],ys,h=>by rw[h.inv_nil];exact⟨[],rfl,.nil⟩
 |x::xs,ys,h=>by
  obtain⟨y,a,rfl,h1,h2⟩:=h.inv_cons
  obtain⟨b,c,d⟩:=hf x y h1
  obtain⟨zs,e,g⟩:=dV1 hf h2
  exact⟨b::zs,by simp only[mapO,c,e],.cons d g⟩
def dW1 {z} {d} {f} (hf:∀x y,RZ z d x y->∃g,f y=some g/\RC true x g):∀{rows} {els},Iq z d rows els->∃c,mapO (fun row=>mapO f row) els=some c/\RR rows c
 |[],els,h=>by
  have:els=[]:=aW3 h.1.symm
  subst this
  exact⟨[],rfl,.nil⟩
 |r::rows,[],h=>by have:=h.1;simp at this
 |r::rows,e::els,h=>by
  obtain⟨e',k,l⟩:=dV1 hf (h.2 0 r e rfl rfl)
  obtain⟨es',m,n⟩:=dW1 hf (rows:=rows) (els:=els) ⟨by simpa using h.1,fun i a b j hb=>h.2 (i+1) a b (by simpa using j) (by simpa using hb)⟩
  exact⟨e'::es',by simp only[mapO,k,m],.cons l n⟩
def Iy {z} (j:∀id o,z id=some o->n0<=id/\L id=some o):∀d f,d<f->∀x y,RZ z d x y->∃k,oB L n0 f y=some k/\RC true x k
 |0,f+1,_,x,y,h=>⟨y,qQ h,h⟩
 |d+1,f+1,hd,x,y,h=>by
  rcases h with h|⟨e,rows,id,ver,ty,els,rfl,rfl,h3,g,h5⟩
  exact⟨y,qQ h,h⟩
  have g:=g.1
  have ih:=Iy j d f (by omega)
  have hr:Iq z d rows (els.take rows.length):=⟨by simp[bL3 g],fun i r r' a b=>h5 i r r' a (by
   rw[zR2]at b
   split at b
   exact b
   cases b)⟩
  obtain⟨c,l,m⟩:=dW1 (f:=oB L n0 f) (fun x y h=>ih x y h) hr
  obtain⟨z1,z2⟩:=j id _ h3
  refine⟨.is e c,?_,m.is⟩
  show(match L id with
   |some (.arr _ _ e ver' els)=>
    if n0<=id/\ver'=ver/\0+rows.length<=els.length then(mapO (fun row=>mapO (oB L n0 f) row) ((els.drop 0).take rows.length)).map fun rows=>AV.is e rows else none
   |_=>none)=_
  rw[z2]
  show(if n0<=id/\ver=ver/\0+rows.length<=els.length then(mapO (fun row=>mapO (oB L n0 f) row) ((els.drop 0).take rows.length)).map fun rows=>AV.is e rows else none)=_
  rw[yY2 ⟨z1,rfl,by omega⟩,aO3,l]
  rfl
def rS1 {z} (c:∀id o,z id=some o->n0<=id/\L id=some o) {d f e id ver ty} {rows} {els} (hd:d<f) (hn:n0<=id) (b:L id=some (.arr false ty e ver els)) (hr:Iq z d rows els):
  ∃a,oB L n0 (f+1) (.sl e id ver 0 rows.length none)=some (.is e a)/\RR rows a:=by
 obtain⟨a,g,i⟩:=dW1 (f:=oB L n0 f) (fun x y h=>Iy c d f hd x y h) hr;refine⟨a,?_,i⟩;have hl:=hr.1
 show(match L id with
  |some (.arr _ _ e ver' els)=>
   if n0<=id/\ver'=ver/\0+rows.length<=els.length then(mapO (fun row=>mapO (oB L n0 f) row) ((els.drop 0).take rows.length)).map fun rows=>AV.is e rows else none
  |_=>none)=_
 rw[b];show(if n0<=id/\ver=ver/\0+rows.length<=els.length then(mapO (fun row=>mapO (oB L n0 f) row) ((els.drop 0).take rows.length)).map fun rows=>AV.is e rows else none)=_
 rw[yY2 ⟨hn,rfl,by omega⟩,aO3,hl,bP3,g];rfl
def dX1 {f}:∀{rows:aA (aA PV)} {els:aA (aA AV)},rows.length=els.length->(∀(i:Nat) (r:aA PV) (r':aA AV),rows[i]? =some r->els[i]? =some r'->LR (fun x y=>∃d,f y=some d/\RC true x d) r r')->∃c,mapO (fun row=>mapO f row) els=some c/\RR rows c
 |[],els,hl,h=>by
  have:els=[]:=aW3 hl.symm
  subst this
  exact⟨[],rfl,.nil⟩
 |r::rows,[],hl,h=>by simp at hl
 |r::rows,e::els,hl,h=>by
  obtain⟨e',j,k⟩:=dV1 (fun _ _ h=>h) (h 0 r e rfl rfl)
  obtain⟨es',l,m⟩:=dX1 (f:=f) (rows:=rows) (els:=els) (by simpa using hl) (fun i a b g hb=>h (i+1) a b (by simpa using g) (by simpa using hb))
  exact⟨e'::es',by simp only[mapO,j,l],.cons k m⟩
def Wg {p:TD->Bool}:∀{ks} {j} {t},(ks.all fun q=>p q.2)=true->eZ ks j=some t->p t=true
 |[],_,_,_,h=>by cases h
 |(i,t')::r,j,t,ha,h=>by
  simp only[aR3,yS2]at ha
  unfold eZ at h
  cases hb:Nat.beq i j with
  |true=>rw[hb]at h;cases h;exact ha.1
  |false=>rw[hb]at h;exact Wg ha.2 h
def dY1 {f e id ver len} {ty} {els els'} (hn:n0<=id) (a:L id=some (.arr false ty e ver els)) (b:len<=els.length) (c:mapO (fun row=>mapO (oB L n0 f) row) (els.take len)=some els'):
  oB L n0 (f+1) (.sl e id ver 0 len none)=some (.is e els'):=by
 show(match L id with
  |some (.arr _ _ e ver' els)=>
   if n0<=id/\ver'=ver/\0+len<=els.length then(mapO (fun row=>mapO (oB L n0 f) row) ((els.drop 0).take len)).map fun rows=>AV.is e rows else none
  |_=>none)=_
 rw[a];show(if n0<=id/\ver=ver/\0+len<=els.length then(mapO (fun row=>mapO (oB L n0 f) row) ((els.drop 0).take len)).map fun rows=>AV.is e rows else none)=_
 rw[yY2 ⟨hn,rfl,by omega⟩,aO3,c];rfl
theorem qR {l:aA A} {x:A} (h:(l.take n)[i]? =some x):l[i]? =some x:=by grind
def yH {f e:Nat} {ks:aA (Nat×TD)} {t:TD} (h:xP f (.nd ty e ks)=true) (hk:eZ ks j=some t):∃g,f=g+1/\xP g t=true:=by
 cases f with
 |zero=>
  cases ks with
  |nil=>cases hk
  |cons a r=>simp[xP]at h
 |succ g=>exact⟨g,rfl,Wg h hk⟩
def Po {w} {lim nS} (hn:n0<=lim):∀{f d:Nat} {sl:Nat×Nat×Nat} {t:TD} {x:PV} {y:AV},xP f t=true->eL L w lim nS d sl t x y->∃k,oB L n0 (f+2) y=some k/\RC true x k
 |_,0,_,_,_,_,_,h=>h.elim
 |f,d+1,sl,.nd ty e ks,x,y,ht,h=>by
  rcases h with⟨_,h⟩|⟨rows,rfl,h2⟩
  exact⟨y,qQ h,h⟩
  rcases h2 with⟨rfl,rfl⟩|⟨id,ver,els,rfl,k2,k3,k4,kf,k5,⟨k6,_⟩,k7⟩
  exact⟨_,rfl,.isn⟩
  obtain⟨c,q1,q2⟩:=dX1 (f:=oB L n0 (f+1)) (rows:=rows) (els:=els.take rows.length) (by simp[bL3 k6]) (fun i r r' a b=>⟨(k7 i r r' a (qR b)).1,fun j m l a1 b1=>by
   have:=(k7 i r r' a (qR b)).2 j m l a1 b1
   cases hk:eZ ks j with
   |none=>rw[hk]at this;exact⟨l,qQ this,this⟩
   |some t=>
    rw[hk]at this
    obtain⟨g,rfl,hg⟩:=yH ht hk
    exact Po hn hg this⟩)
  exact⟨_,dY1 (zX2 hn k3) k5 k6 q1,q2.is⟩
def rT1 {C} {lim nS d id f e ver ty} {ks} {rows} {els} (hn:n0<=lim) (hl:lim<=id) (m:xP f (.nd ty e ks)=true) (l:L id=some (.arr false ty e ver els)) (h:rows.length<=els.length)
  (hr:∀(i:Nat) (r:aA PV) (r':aA AV),rows[i]? =some r->els[i]? =some r'->r.length=r'.length/\∀(j:Nat) (a:PV) (b:AV),r[j]? =some a->r'[j]? =some b->TC C L lim nS d id ks [] i j a b):
  ∃c,oB L n0 (f+2) (.sl e id ver 0 rows.length none)=some (.is e c)/\RR rows c:=by
 obtain⟨c,q1,q2⟩:=dX1 (f:=oB L n0 (f+1)) (rows:=rows) (els:=els.take rows.length) (by simp[bL3 h]) (fun i r r' a b=>⟨(hr i r r' a (qR b)).1,fun j o k a1 b1=>by
  have:=(hr i r r' a (qR b)).2 j o k a1 b1;unfold TC at this;cases hk:eZ ks j with
  |none=>rw[hk]at this;exact⟨k,qQ this,this⟩
  |some t=>
   rw[hk]at this;obtain⟨g,rfl,hg⟩:=yH m hk;rcases this with⟨⟨x,n⟩,_⟩|⟨_,this⟩
   cases n;exact Po hn hg this⟩)
 exact⟨c,dY1 (zX2 hn hl) l h q1,q2⟩
def kK1 {d id ver e o} {bx} {ty} {esz} {els} {row} (a:L id=some (.arr bx ty esz ver els)) (hr:els[e]? =some row):Bu L (d+1) (.ptr id ver e o)=(mapO (Bu L d) (row.drop o)).map AV.ip:=by
 simp[Bu,a,hr]
def uT1 {d} {f} {a b a' b'} (h1:mapO (Bu L d) a=some a') (h2:mapO (Bu L d) b=some b'):Bu L (d+1) (.fn (.func f) a b)=some (.fn (.func f) a' b'):=by
 simp[Bu,h1,h2]
def kL1 {d} {a a'} (h1:mapO (Bu L d) a=some a'):Bu L (d+1) (.agg a)=some (.agg a'):=by
 simp[Bu,h1]
def rU1 {x} {y} (h:RK x y):Rn L n0 y=some y:=by
 rcases h with h|⟨cs,cs',rfl,rfl,h⟩
 cases h<;>rfl;simp only[Rn,Ix h,zW2]
def dZ1 {es:aA (PV×PV)} {es':aA (AV×AV)} (h:EM es es'):mapO (fun(k,x)=>match Rn L n0 k,Rn L n0 x with|some k,some x=>some (k,x)|_,_=>none) es'=some es':=
 Ci fun p hp=>by
  obtain⟨j,c⟩:=zL2.1 hp
  have d:j<es.length:=by rw[h.1];exact(yT2.1 c).1
  obtain⟨h1,h2⟩:=h.2 j es[j] p (by simp) c
  obtain⟨a,b⟩:=p
  simp only[rU1 h1,rU1 h2]
end
section
variable {C:Cx} {h:aJ} {s:Hp}
def Iz:∀{d} {x} {y},eY d x=true->RC false x y->Sim.closed d y=true
 |0,_,_,h,_=>by simp[eY]at h
 |d+1,x,y,hc,hr=>by
  have all:∀{xs} {ys},xs.all (eY d)=true->LR (RC false) xs ys->ys.all (Sim.closed d)=true:=by
   intro xs ys c hl;rw[yW2];intro y hy;obtain⟨x,a,b⟩:=Lb hl hy;exact Iz (yW2.1 c x a) b
  cases hr with
  |fn h1 h2 v1 v2=>
   simp only[eY,yS2]at hc;simp only[Sim.closed,yS2];exact⟨all hc.1 ⟨h1,v1⟩,all hc.2 ⟨h2,v2⟩⟩
  |agg hl hcc=>
   simp only[eY]at hc;simp only[Sim.closed];exact all hc ⟨hl,hcc⟩
  |tup hl hcc=>
   simp only[eY]at hc;simp only[Sim.closed];exact all hc ⟨hl,hcc⟩
  |_=>rfl
def FzR (L:Nat->aB AO) (d:Nat) (a:PV) (y:AV):Prop:=∃b,Bu L d y=some b/\RC false a b/\∀D,Sim.closed D y=true->RC false a y
def Wh (q:cM C n h lim s):∀(d:Nat) (x:PV) (y:AV) (K:PV->aB R) (r:R),Kq h d x K=some r->RV C x y->∃S,K S=some r/\FzR (Sim.look s.h) (d+1) S y
 |0,x,y,K,r,hk,_=>by unfold Kq at hk;exact aD hk
 |d+1,x,y,K,r,hk,hv=>by
  have j:∀(xs:aA PV) (ys:aA AV) (K:aA PV->aB R) (r:R),vC (Kq h d) xs K=some r->LR (RV C) xs ys->
    ∃xs' p,K xs'=some r/\mapO (Bu (Sim.look s.h) (d+1)) ys=some p/\LR (RC false) xs' p/\((∀y∈ys,∃D,Sim.closed D y=true)->LR (RC false) xs' ys):=by
   intro xs
   induction xs with
   |nil=>
    intro ys K r hk hl;rw[hl.inv_nil];unfold vC at hk;exact⟨[],[],hk,rfl,.nil,fun _=>.nil⟩
   |cons a as ih=>
    intro ys K r hk hl;obtain⟨y,p,rfl,h1,h2⟩:=hl.inv_cons;unfold vC at hk;obtain⟨a',A,b',w,T,U⟩:=Wh q d a y _ r hk h1;obtain⟨J,M,q1,q2,q3,q4⟩:=ih p _ r A h2;refine⟨a'::J,b'::M,q1,by simp only[mapO,w,q2],.cons T q3,fun hc=>?_⟩;obtain⟨D,i⟩:=hc y (by simp);exact .cons (U D i) (q4 fun z m=>hc z (by simp[m]))
  unfold Kq at hk;cases x with
  |own k=>
   simp only[gH,yR2]at hk;obtain⟨ob,hg,hk⟩:=hk;cases ob with
   |lst ty e g rows=>
    refine⟨_,hk,?_⟩;rcases fA hv with⟨id,ver,G,len,l,rfl⟩|⟨l,rfl⟩
    obtain⟨_,rfl,hlen,els,B,hr,E,_⟩:=lC q hg l;subst hlen;refine⟨.is G (els.take rows.length),?_,hr.is,fun D i=>by cases D<;>simp[Sim.closed]at i⟩;exact We (d:=4) (aB3 _) B hr E.1;have:=mE q hg l;subst this;exact⟨_,rfl,.isn,fun _ _=>.isn⟩
   |lz ty e dp rows=>
    cases hb:Nat.ble dp 4 with
    |false=>simp only[hb,zP2]at hk;exact aD hk
    |true=>
    simp only[hb,zE2]at hk;have hb:=zH2 hb;refine⟨_,hk,?_⟩;rcases fA hv with⟨id,ver,G,len,l,rfl⟩|⟨l,rfl⟩
    obtain⟨_,_,rfl,hlen,_,els,B,hr⟩:=Bh q hg l;subst hlen;obtain⟨u,A,w⟩:=rS1 (n0:=0) (f:=5) (fun id o m=>⟨aB3 _,(q.hr.zr id o m).1⟩) (by omega) (aB3 _) B hr;exact⟨.is G u,A,w.is,fun D i=>by cases D<;>simp[Sim.closed]at i⟩;have:=Aa q hg l;subst this;exact⟨_,rfl,.isn,fun _ _=>.isn⟩
   |tr t rows hs=>
    obtain⟨ty,e,ks⟩:=t;cases hs with
    |cons a b=>exact aD hk
    |nil=>
    cases hb:xP 4 (.nd ty e ks)with
    |false=>simp only[hb,zP2]at hk;exact aD hk
    |true=>
    simp only[hb,zE2]at hk;refine⟨_,hk,?_⟩;rcases fA hv with⟨id,ver,G,len,l,rfl⟩|⟨l,rfl⟩
    obtain⟨H,_,rfl,hlen,_,els,d,B,E,hr⟩:=kZ q hg l;subst hlen;obtain⟨u,A,w⟩:=rT1 (n0:=0) (f:=4) (aB3 _) H hb B E.1 hr;exact⟨.is G u,A,w.is,fun D i=>by cases D<;>simp[Sim.closed]at i⟩;have:=(qB q hg l).1;subst this;exact⟨_,rfl,.isn,fun _ _=>.isn⟩
   |_=>exact aD hk
  |zs dp e rows=>
   cases hb:Nat.ble dp 5 with
   |false=>simp only[hb,zP2]at hk;exact aD hk
   |true=>
   simp only[hb,zE2]at hk;have hb:=zH2 hb;refine⟨_,hk,?_⟩;have m:=tO hv;obtain⟨O,A,w⟩:=Iy (L:=Sim.look s.h) (n0:=0) (fun id o m=>⟨aB3 _,(q.hr.zr id o m).1⟩) dp 6 (by omega) _ _ m;rcases yD m with(⟨rows',rfl,hr⟩|⟨rfl,rfl⟩)|⟨d',id,ver,ty,els,_,rfl,_,_,_⟩
   exact⟨_,rfl,hr.is,fun _ _=>hr.is⟩;exact⟨_,rfl,.isn,fun _ _=>.isn⟩;exact⟨O,A,w.weak,fun D i=>by cases D<;>simp[Sim.closed]at i⟩
  |zt c e rows=>
   refine⟨_,hk,?_⟩;have m:=(Fj hv).rz;obtain⟨O,A,w⟩:=Iy (L:=Sim.look s.h) (n0:=0) (fun id o m=>⟨aB3 _,(q.hr.zr id o m).1⟩) 2 6 (by omega) _ _ m;rcases yD m with(⟨rows',rfl,hr⟩|⟨rfl,rfl⟩)|⟨d',id,ver,ty,els,_,rfl,_,_,_⟩
   exact⟨_,rfl,hr.is,fun _ _=>hr.is⟩;exact⟨_,rfl,.isn,fun _ _=>.isn⟩;exact⟨O,A,w.weak,fun D i=>by cases D<;>simp[Sim.closed]at i⟩
  |map k=>
   simp only[gH,yR2]at hk;obtain⟨ob,hg,hk⟩:=hk;cases ob with
   |mp es=>
    refine⟨_,hk,?_⟩;obtain⟨id,ver,e,len,l,rfl⟩:=zY hv;obtain⟨_,es',B,he⟩:=Pe q hg l;refine⟨.im es',?_,he.er.im,fun D i=>by cases D<;>simp[Sim.closed]at i⟩;simp only[Bu,B];exact congrArg (Option.map AV.im) (dZ1 he)
   |_=>exact aD hk
  |ref k o=>
   simp only[gH,yR2]at hk;obtain⟨ob,hg,hk⟩:=hk;cases ob with
   |box cs=>
    obtain⟨A,w⟩:=dZ _ _ _ _ hk;obtain⟨id,ver,e,len,l,rfl⟩:=kH hv;obtain⟨_,ty,esz,row,B,hl⟩:=wB q hg l;obtain⟨xs',p,q1,q2,q3,_⟩:=j _ _ _ r w (hl.drop o);refine⟨_,q1,.ip p,?_,.ip q3.1 q3.2,fun D i=>by cases D<;>simp[Sim.closed]at i⟩;rw[kK1 B rfl,q2];rfl
   |_=>exact aD hk
  |fn f a b=>
   obtain⟨a',b',rfl,h1,h2⟩:=sM hv;obtain⟨N,F,p1,p2,p3,p4⟩:=j _ _ _ r hk h1;obtain⟨V,P,q1,q2,q3,q4⟩:=j _ _ _ r p1 h2;refine⟨_,q1,.fn (.func f) F P,uT1 p2 q2,.fn p3.1 q3.1 p3.2 q3.2,fun D i=>?_⟩;cases D with
   |zero=>simp[Sim.closed]at i
   |succ D=>
    simp only[Sim.closed,yS2,yW2]at i;have w1:=p4 fun y hy=>⟨D,i.1 y hy⟩
    have w2:=q4 fun y hy=>⟨D,i.2 y hy⟩
    exact .fn w1.1 w2.1 w1.2 w2.2
  |agg cs=>
   obtain⟨cs',rfl,h1⟩:=mD hv;obtain⟨N,F,p1,p2,p3,p4⟩:=j _ _ _ r hk h1;refine⟨_,p1,.agg F,kL1 p2,.agg p3.1 p3.2,fun D i=>?_⟩;cases D with
   |zero=>simp[Sim.closed]at i
   |succ D=>
    simp only[Sim.closed,yW2]at i;have w1:=p4 fun y hy=>⟨D,i y hy⟩
    exact .agg w1.1 w1.2
  |v x=>
   rw[gT hv];exact⟨_,hk,_,rfl,.v x,fun _ _=>.v x⟩
  |is e rows=>
   refine⟨_,hk,?_⟩;rcases tM hv with⟨rows',rfl,hr⟩|⟨rfl,rfl⟩
   exact⟨_,rfl,hr.is,fun _ _=>hr.is⟩;exact⟨_,rfl,.isn,fun _ _=>.isn⟩
  |ip cs=>
   obtain⟨cs',rfl,hl⟩:=yC hv;exact⟨_,hk,_,rfl,.ip hl.1 hl.2,fun _ _=>.ip hl.1 hl.2⟩
  |im es=>
   obtain⟨es',rfl,he⟩:=Pd hv;exact⟨_,hk,_,rfl,he.im,fun _ _=>he.im⟩
  |_=>exact aD hk
def Bj (e:cM C n h lim s):∀(xs:aA PV) (ys:aA AV) (K:aA PV->aB R) (r:R),Cg h xs K=some r->LR (RV C) xs ys->
  ∃xs' b,K xs'=some r/\mapO (Bu (Sim.look s.h) 6) ys=some b/\LR (RC false) xs' b/\((∀y∈ys,∃D,Sim.closed D y=true)->LR (RC false) xs' ys)
 |[],ys,K,r,hk,hl=>by
  rw[hl.inv_nil]
  exact⟨[],[],hk,rfl,.nil,fun _=>.nil⟩
 |a::as,ys,K,r,hk,hl=>by
  obtain⟨y,b,rfl,h1,h2⟩:=hl.inv_cons
  unfold Cg at hk
  obtain⟨a',i,b',j,k,l⟩:=Wh e 5 a y _ r hk h1
  obtain⟨c,d,q1,q2,q3,q4⟩:=Bj e as b _ r i h2
  refine⟨a'::c,b'::d,q1,by simp only[mapO,j,q2],.cons k q3,fun hc=>?_⟩
  obtain⟨D,f⟩:=hc y (by simp)
  exact .cons (l D f) (q4 fun z g=>hc z (by simp[g]))
def rX (T:jW) (f:FuncId) (xs:aA PV) (v:PV):Prop:=
 ∃ifn,T f=some ifn/\ifn.pure=true/\(zV 4 v=true->ifn.frz=true)/\∀ys,LR (RC false) xs ys->∃D,∀d,D<=d->∃y,Sim.runP T (exec T d) f ifn ys=some y/\RC false v y
def eA1:∀{d} {x} {y},zV d x=true->RC false x y->Sim.gnd d y=true
 |0,_,_,h,_=>by simp[zV]at h
 |d+1,x,y,hc,hr=>by
  have all:∀{xs} {ys},xs.all (zV d)=true->LR (RC false) xs ys->ys.all (Sim.gnd d)=true:=by
   intro xs ys c hl;rw[yW2];intro y hy;obtain⟨x,a,b⟩:=Lb hl hy;exact eA1 (yW2.1 c x a) b
  cases hr with
  |v x=>rfl
  |agg hl hcc=>simp only[zV]at hc;simp only[Sim.gnd];exact all hc ⟨hl,hcc⟩
  |tup hl hcc=>simp only[zV]at hc;simp only[Sim.gnd];exact all hc ⟨hl,hcc⟩
  |_=>simp[zV]at hc
def Pp {T:jW} {O:zE} (u:∀f xs v,O f xs=some v->rX T f xs v) (w:cM C n h lim s) {f:FuncId} {K:PV->aB R} {r:R} (hk:Bf O f xs h K=some r) (q:LR (RV C) xs ys):
  ∃v y,K v=some r/\RC false v y/\(∃ifn,T f=some ifn/\ifn.pure=true/\(ifn.frz||ys.all (Sim.closed 4))=true)/\∃D,∀d,D<=d->∀m,Sim.callF T (exec T d) lim f ys {h:=s.h,n:=m}=some (y,{h:=s.h,n:=m}):=by
 unfold Bf at hk;by_cases hc:xs.all (eY 4)=true;rw[hc,zE2,bJ,yR2]at hk;obtain⟨v,hv,hk⟩:=hk;rw[Pc]at hk;obtain⟨ifn,h1,h2,l,o⟩:=u f xs v hv;have i:LR (RC false) xs ys:=⟨q.1,fun j x y a b=>Iu (q.2 j x y a b) (yW2.1 hc x (zC2 a))⟩
 have c:ys.all (Sim.closed 4)=true:=by
  rw[yW2];intro y hy;obtain⟨x,z,A⟩:=Lb i hy;exact Iz (yW2.1 hc x z) A
 obtain⟨D,g⟩:=o ys i;obtain⟨y,k,e⟩:=g D (yX2 _);refine⟨v,y,hk,e,⟨ifn,h1,h2,by rw[c];simp⟩,D,fun d hd m=>?_⟩;simp only[Sim.callF,h1,h2,zT2,c,Sim.mono_runP (Sim.mono_le T hd) k,zW2];simp only[bA3]at hc;rw[hc,zP2]at hk;obtain⟨xs',t,q1,q2,q3,q4⟩:=Bj w xs ys _ r hk q;rw[bJ,yR2]at q1;obtain⟨v,hv,q1⟩:=q1;rw[Pc]at q1;cases hg:zV 4 v with
 |false=>rw[hg]at q1;exact aD q1
 |true=>
  rw[hg,zE2]at q1;obtain⟨ifn,h1,h2,l,o⟩:=u f xs' v hv;by_cases c:ys.all (Sim.closed 4)=true;obtain⟨D,g⟩:=o ys (q4 fun y hy=>⟨4,yW2.1 c y hy⟩);obtain⟨y,k,e⟩:=g D (yX2 _);refine⟨v,y,q1,e,⟨ifn,h1,h2,by rw[l hg];rfl⟩,D,fun d hd m=>?_⟩;simp only[Sim.callF,h1,h2,zT2,c,Sim.mono_runP (Sim.mono_le T hd) k,zW2];obtain⟨D,g⟩:=o t q3;obtain⟨y,k,e⟩:=g D (yX2 _);have p:=eA1 hg e;refine⟨v,y,q1,e,⟨ifn,h1,h2,by rw[l hg];rfl⟩,D,fun d hd m=>?_⟩;simp only[Sim.callF,h1,h2,l hg,zT2,q2,Sim.mono_runP (Sim.mono_le T hd) k,p];rw[zB2 c]
end
end Go.P
namespace Go.P
open Go.Sim (AV AO Hp fQ upd St IC IX Ex gC CK Wf Out doOp jW exec)
variable {C C':Cx} {lim n:Nat}
section
variable {R:Type} {h:aJ} {s:Hp}
def kA (k:Nat) (C C':Cx):Prop:=(∀j,j≠k->C' j=C j)/\∀id o,C.z id=some o->C'.z id=some o
def Pq {C'} {k} (l:kA k C C'):∀(d:Nat) (x:PV) (y:AV) (K:PV->aB R) (r:R),eS k d x K=some r->RV C x y->∃s,K s=some r/\RV C' s y
 |0,x,y,K,r,hk,_=>by unfold eS at hk;exact⟨_,hk,.undef⟩
 |d+1,x,y,K,r,hk,hv=>by
  have g:∀(xs:aA PV) (ys:aA AV) (K:aA PV->aB R) (r:R),eS.kills k d xs K=some r->LR (RV C) xs ys->∃xs',K xs'=some r/\LR (RV C') xs' ys:=by
   intro xs
   induction xs with
   |nil=>
    intro ys K r hk hl;rw[hl.inv_nil];unfold eS.kills at hk;exact⟨[],hk,.nil⟩
   |cons a as ih=>
    intro ys K r hk hl;obtain⟨y,q,rfl,h1,h2⟩:=hl.inv_cons;unfold eS.kills at hk;obtain⟨a',u,w⟩:=Pq l d a y _ r hk h1;obtain⟨p,q1,q2⟩:=ih q _ r u h2;exact⟨a'::p,q1,.cons w q2⟩
  have other:∀{pl:aB Pl} {j:Nat},C j=pl->j≠k->C' j=pl:=fun h t=>(l.1 _ t).trans h;unfold eS at hk;cases x with
  |zs d e rows=>exact⟨_,hk,.zs (RZ.mono l.2 (tO hv))⟩
  |zm es=>
   rcases rO1 hv with⟨id,es',rfl,h1,h2⟩|⟨rfl,rfl⟩
   exact⟨_,hk,.zm (l.2 _ _ h1) h2⟩;exact⟨_,hk,.zm0⟩
  |own j=>
   simp only[aW]at hk;by_cases e:j=k;rw[aF3 e]at hk;exact⟨_,hk,.undef⟩;rw[zO2 e]at hk;refine⟨_,hk,?_⟩;rcases fA hv with⟨id,ver,n,len,hc,rfl⟩|⟨hc,hy⟩
   exact .own (other hc e);exact .ownn (other hc e) hy
  |el j i o=>
   simp only[aW]at hk;by_cases e:j=k;rw[aF3 e]at hk;exact⟨_,hk,.undef⟩;rw[zO2 e]at hk;obtain⟨id,ver,n,len,hc,rfl⟩:=tN hv;exact⟨_,hk,.el (other hc e)⟩
  |fn f a b=>
   obtain⟨a',b',rfl,h1,h2⟩:=sM hv;obtain⟨m,p1,p2⟩:=g _ _ _ r hk h1;obtain⟨z,q1,q2⟩:=g _ _ _ r p1 h2;exact⟨_,q1,.fn p2.1 q2.1 p2.2 q2.2⟩
  |agg cs=>
   obtain⟨cs',rfl,h1⟩:=mD hv;obtain⟨m,p1,p2⟩:=g _ _ _ r hk h1;exact⟨_,p1,.agg p2.1 p2.2⟩
  |tup cs=>
   obtain⟨cs',rfl,h1⟩:=wA hv;obtain⟨m,p1,p2⟩:=g _ _ _ r hk h1;exact⟨_,p1,.tup p2.1 p2.2⟩
  |ref j o=>
   simp only[aW]at hk;by_cases e:j=k;rw[aF3 e]at hk;exact⟨_,hk,.undef⟩;rw[zO2 e]at hk;obtain⟨id,ver,n,len,hc,rfl⟩:=kH hv;exact⟨_,hk,.ref (other hc e)⟩
  |map j=>
   simp only[aW]at hk;by_cases e:j=k;rw[aF3 e]at hk;exact⟨_,hk,.undef⟩;rw[zO2 e]at hk;obtain⟨id,ver,n,len,hc,rfl⟩:=zY hv;exact⟨_,hk,.map (other hc e)⟩
  |yld j=>
   simp only[aW]at hk;by_cases e:j=k;rw[aF3 e]at hk;exact⟨_,hk,.undef⟩;rw[zO2 e]at hk;obtain⟨id,ver,n,len,hc,rfl⟩:=Kw hv;exact⟨_,hk,.yld (other hc e)⟩
  |v x=>rw[gT hv];exact⟨_,hk,.cl (.v x)⟩
  |is e rows=>exact⟨_,hk,.cl (by cases hv with|cl h=>exact h)⟩
  |ip cs=>exact⟨_,hk,.cl (by cases hv with|cl h=>exact h)⟩
  |im es=>exact⟨_,hk,.cl (by cases hv with|cl h=>exact h)⟩
  |undef=>exact⟨_,hk,.undef⟩
  |zp cs=>exact⟨_,hk,hv.zpm l.2⟩
  |zt c e rows=>exact⟨_,hk,.zt ((Fj hv).mono l.2)⟩
def Fs {k}:∀(d:Nat) (x:PV) (K:PV->aB R) (r:R),eS k d x K=some r->∃h,K h=some r/\∀{C C':Cx} {y:AV},kA k C C'->RV C x y->RV C' h y
  |d,x,K,r,hk=>by
    have p:∃h,(∀{R:Type} (K:PV->aB R),eS k d x K=K h):=by
      have s:∀(d:Nat) (x:PV),∃h,∀{R:Type} (K:PV->aB R),eS k d x K=K h:=by
        intro d
        induction d with
        |zero=>intro x;exact⟨.undef,fun K=>by unfold eS;rfl⟩
        |succ d ih=>
          have g:∀(xs:aA PV),∃xs',∀{R:Type} (K:aA PV->aB R),eS.kills k d xs K=K xs':=by
            intro xs
            induction xs with
            |nil=>exact⟨[],fun K=>by unfold eS.kills;rfl⟩
            |cons a as ihl=>
              obtain⟨a',l⟩:=ih a;obtain⟨n,q⟩:=ihl;exact⟨a'::n,fun K=>by unfold eS.kills;rw[l,q]⟩
          intro x;cases x with
          | own j => by_cases e:j=k
                     exact⟨.undef,fun K=>by unfold eS;simp[aW,e]⟩;exact⟨.own j,fun K=>by unfold eS;simp[aW,e]⟩
          | el j i o => by_cases e:j=k
                        exact⟨.undef,fun K=>by unfold eS;simp[aW,e]⟩;exact⟨.el j i o,fun K=>by unfold eS;simp[aW,e]⟩
          | ref j o => by_cases e:j=k
                       exact⟨.undef,fun K=>by unfold eS;simp[aW,e]⟩;exact⟨.ref j o,fun K=>by unfold eS;simp[aW,e]⟩
          |zs d e rows=>exact⟨.zs d e rows,fun K=>by unfold eS;rfl⟩
          |zm es=>exact⟨.zm es,fun K=>by unfold eS;rfl⟩
          | map j => by_cases e:j=k
                     exact⟨.undef,fun K=>by unfold eS;simp[aW,e]⟩;exact⟨.map j,fun K=>by unfold eS;simp[aW,e]⟩
          | yld j => by_cases e:j=k
                     exact⟨.undef,fun K=>by unfold eS;simp[aW,e]⟩;exact⟨.yld j,fun K=>by unfold eS;simp[aW,e]⟩
          |fn f a b=>
            obtain⟨a',l⟩:=g a;obtain⟨b',hb⟩:=g b;exact⟨.fn f a' b',fun K=>by unfold eS;simp only[l,hb]⟩
          |agg cs=>
            obtain⟨a',l⟩:=g cs;exact⟨.agg a',fun K=>by unfold eS;simp only[l]⟩
          |tup cs=>
            obtain⟨a',l⟩:=g cs;exact⟨.tup a',fun K=>by unfold eS;simp only[l]⟩
          |v x=>exact⟨.v x,fun K=>by unfold eS;rfl⟩
          |is e rows=>exact⟨.is e rows,fun K=>by unfold eS;rfl⟩
          |ip cs=>exact⟨.ip cs,fun K=>by unfold eS;rfl⟩
          |im es=>exact⟨.im es,fun K=>by unfold eS;rfl⟩
          |undef=>exact⟨.undef,fun K=>by unfold eS;rfl⟩
          |zp cs=>exact⟨.zp cs,fun K=>by unfold eS;rfl⟩
          |zt c e rows=>exact⟨.zt c e rows,fun K=>by unfold eS;rfl⟩
      exact s d x
    obtain⟨h,m⟩:=p;refine⟨h,by rw[<-hk];exact(m K).symm,fun{C C' y} t hv=>?_⟩;obtain⟨u,h1,h2⟩:=Pq (R:=PV) t d x y some h (m some) hv;cases h1;exact h2
def eB1 (k:Nat) (e e':eQ):Prop:=∀i v',eH e' i=some v'->∃v,eH e i=some v/\∀{C C':Cx} {y:AV},kA k C C'->RV C v y->RV C' v' y
def jX {k}:∀(e:eQ) (K:eQ->aB R) (r:R),nL k e K=some r->∃e',K e'=some r/\eB1 k e e'
 |[],K,r,hk=>⟨[],hk,fun i v h=>by simp[eH]at h⟩
 |(j,v)::t,K,r,hk=>by
  unfold nL at hk
  obtain⟨v',a,b⟩:=Fs 3 v _ r hk
  obtain⟨c,q1,q2⟩:=jX t _ r a
  refine⟨(j,v')::c,q1,fun i w hw=>?_⟩
  simp only[eH]at hw ⊢
  split at hw
  rename_i e;cases hw;rw[yY2 e];exact⟨v,rfl,b⟩
  rename_i e;rw[zB2 e];exact q2 i w hw
def tQ (k:Nat) (h h':aJ):Prop:=(∀j,aG h' j=none↔aG h j=none)/\∀j o',aG h' j=some o'->∃o,aG h j=some o/\gB o'=gB o/\
 ∀{C C':Cx} {L:Nat->aB AO} {lim nS:Nat} {pl:Pl},kA k C C'->C'.w=C.w->fI C L lim nS o pl->fI C' L lim nS o' pl
def Ft {k d}:∀(xs:aA PV) (K:aA PV->aB R) (r:R),eS.kills k d xs K=some r->∃xs',K xs'=some r/\∀{C C':Cx} {ys:aA AV},kA k C C'->LR (RV C) xs ys->LR (RV C') xs' ys
 |[],K,r,hk=>by
  unfold eS.kills at hk
  exact⟨[],hk,fun _ hl=>by rw[hl.inv_nil];exact .nil⟩
 |a::as,K,r,hk=>by
  unfold eS.kills at hk
  obtain⟨a',e,f⟩:=Fs d a _ r hk
  obtain⟨b,q1,q2⟩:=Ft as _ r e
  refine⟨a'::b,q1,fun c hl=>?_⟩
  obtain⟨y,g,rfl,h1,h2⟩:=hl.inv_cons
  exact .cons (f c h1) (q2 c h2)
def uU1 {fs b:aA PV} {els:aA (aA AV)} (h:∀{ys:aA AV},LR (RV C) fs ys->LR (RV C') b ys) (hl:els.length=fs.length) (hr:∀(i:Nat) (f:PV) (row:aA AV),fs[i]? =some f->els[i]? =some row->LR (RV C) [f] row):
  fs.length=b.length/\els.length=b.length/\∀(i:Nat) (f:PV) (row:aA AV),b[i]? =some f->els[i]? =some row->LR (RV C') [f] row:=by
 have hy:=h (ys:=els.map fun r=>r.headD default) ⟨by simp[hl],fun j x y m hy=>by
  simp only[aJ3,yV2]at hy;obtain⟨row,a,rfl⟩:=hy;obtain⟨y,g,rfl,k,l⟩:=(hr j x row m a).inv_cons;exact k⟩
 have hlen:b.length=els.length:=by simpa using hy.1
 refine⟨by omega,by omega,fun i f row hf a=>?_⟩
 have e:∃c,fs[i]? =some c:=by
  have:=(yT2.1 a).1;exact⟨fs[i]'(by omega),by simp⟩
 obtain⟨c,d⟩:=e;obtain⟨y,g,rfl,k,l⟩:=(hr i c row d a).inv_cons;rw[l.inv_nil];exact .cons (hy.2 i f y hf (by simp[aJ3,a])) .nil
def wG {k}:∀(hs:aA (Nat×Nat×PV)) (K:aA (Nat×Nat×PV)->aB R) (r:R),Ez k hs K=some r->∃c,K c=some r/\(hs=[]->c=[])/\∀i j,(Bw hs i j->Bw c i j)/\∀d,(j,i,d)∈c->∃x,(j,i,x)∈hs/\∀{C C':Cx} {y:AV},kA k C C'->RV C x y->RV C' d y
 |[],K,r,hk=>⟨[],hk,fun _=>rfl,fun i j=>⟨fun h=>h,fun d h=>by cases h⟩⟩
 |(a,b,x)::t,K,r,hk=>by
  unfold Ez at hk
  obtain⟨d,g,l⟩:=Fs 3 x _ r hk
  obtain⟨m,q1,q2,q3⟩:=wG t _ r g
  refine⟨_,q1,fun h=>(by cases h),fun i j=>⟨fun⟨y,hy⟩=>?_,fun y hy=>?_⟩⟩
  rcases zF2.1 hy with hy|hy
  cases hy;exact⟨d,List.mem_cons_self ..⟩
  obtain⟨z,e⟩:=(q3 i j).1 ⟨y,hy⟩
  exact⟨z,aC3 _ e⟩
  rcases zF2.1 hy with hy|hy
  cases hy;exact⟨x,List.mem_cons_self ..,l⟩
  obtain⟨z,e,f⟩:=(q3 i j).2 y hy
  exact⟨z,aC3 _ e,f⟩
def kT {k:Nat}:∀(h:aJ) (K:aJ->aB R) (r:R),kY k h K=some r->∃h',K h'=some r/\tQ k h h'
 |[],K,r,hk=>⟨[],hk,fun j=>Iff.rfl,fun j o h=>by simp[aG]at h⟩
 |(j,o)::t,K,r,hk=>by
  have fin:∀(o':cS),kY k t (fun r=>K ((j,o')::r))=some r->gB o'=gB o->(∀{C C':Cx} {L:Nat->aB AO} {lim nS:Nat} {pl:Pl},kA k C C'->C'.w=C.w->fI C L lim nS o pl->fI C' L lim nS o' pl)->∃h',K h'=some r/\tQ k ((j,o)::t) h':=by
   intro o' hk hb f;obtain⟨H,q1,q2,q3⟩:=kT t _ r hk;refine⟨(j,o')::H,q1,fun i=>?_,fun i w hw=>?_⟩;simp only[aG];split;simp;exact q2 i;simp only[aG]at hw ⊢;split at hw;rename_i e;cases hw;rw[yY2 e];exact⟨o,rfl,hb,f⟩;rename_i e;rw[zB2 e];exact q3 i w hw
  unfold kY at hk;cases o with
  |box cs=>
   obtain⟨cs',z,p⟩:=Ft cs _ r hk;refine fin _ z rfl (fun{C C' L lim nS pl} l hw f=>?_);cases pl with
   |nil=>exact f
   |atp id ver e len=>
    obtain⟨h1,h2,ty,esz,row,m,n⟩:=f;exact⟨h1,h2,ty,esz,row,m,p l n⟩
  |lst ty e g rows=>exact fin _ hk rfl (fun{C C' L lim nS pl} l hw f=>by cases pl<;>exact f)
  |lz ty e dp rows=>
   refine fin _ hk rfl (fun{C C' L lim nS pl} l hw f=>?_);cases pl with
   |nil=>exact f
   |atp id ver e3 len=>
    obtain⟨h1,h2,m,n,s,els,u,A⟩:=f;exact⟨h1,h2,m,n,s,els,u,A.mono l.2⟩
  |mp es=>exact fin _ hk rfl (fun{C C' L lim nS pl} l hw f=>by cases pl<;>exact f)
  |fl fs=>
   obtain⟨F,z,p⟩:=Ft fs _ r hk;refine fin _ z rfl (fun{C C' L lim nS pl} l hw f=>?_);cases pl with
   |nil=>exact f
   |atp id ver e len=>
    obtain⟨h1,h2,m,n,ty,els,s,u,A⟩:=f;obtain⟨a,b,c⟩:=uU1 (p l) u A;exact⟨h1,h2,m,by rw[n,a],ty,els,s,b,c⟩
  |loop N e ps a b busy fi=>
   obtain⟨e',z,p⟩:=jX e _ r hk;refine fin _ z rfl (fun{C C' L lim nS pl} l hw f=>?_);cases pl with
   |nil=>exact f
   |atp id ver e3 len=>
    obtain⟨h1,h2,st,pend,tmps,m,n,s,u⟩:=f;refine⟨h1,h2,st,pend,tmps,m,n,fun i v hv=>?_,u⟩;obtain⟨w,w1,w2⟩:=p i v hv;obtain⟨y,J,M⟩:=s i w w1;exact⟨y,J,w2 l M⟩
  |tr t rows hs=>
   obtain⟨G,z,p⟩:=wG hs _ r hk;refine fin _ z rfl (fun{C C' L lim nS pl} l hw f=>?_);obtain⟨ty,e,ks⟩:=t;cases pl with
   |nil=>exact⟨f.1,by have:=f.2;subst this;simpa using p.1⟩
   |atp id ver e3 len=>
    obtain⟨h1,h2,m,n,s,els,d,u,A,E⟩:=f;refine⟨h1,h2,m,n,s,els,d,u,A,fun i r r' a b=>⟨(E i r r' a b).1,fun j x y c1 c2=>?_⟩⟩;have:=(E i r r' a b).2 j x y c1 c2;unfold TC at this ⊢;cases hk:eZ ks j with
    |none=>rw[hk]at this;exact this
    |some t=>
     rw[hk]at this;simp only at this ⊢;rw[hw];have q:=p.2 i j;rcases this with⟨a1,a2⟩|⟨a1,a2⟩
     exact .inl ⟨q.1 a1,fun D B=>by
      obtain⟨x,p1,p2⟩:=q.2 D B;exact p2 l (a2 x p1)⟩
     exact .inr ⟨fun⟨D,B⟩=>by
      obtain⟨x,p1,_⟩:=q.2 D B;exact a1 ⟨x,p1⟩,a2⟩
theorem eC1 (c:cM C n h lim s) {e:Nat} {x:PV} {y:AV} {K:aA (aA PV)->aB R} {r:R} (hk:cR1 h e x K=some r) (hv:RV C x y):∃rows rows',K rows=some r/\Sim.rowsOf (Sim.look s.h) e y=some rows'/\RR rows rows':=by
 unfold cR1 at hk;split at hk;rename_i e' rows;rw[aW]at hk;by_cases a:e'=e;subst a;rw[aF3 rfl,zE2]at hk;rcases Vu hv with⟨rows',rfl,hr⟩|⟨rfl,rfl|rfl⟩
 exact⟨rows,rows',hk,by simp[Sim.rowsOf],hr⟩;exact⟨[],[],hk,rfl,.nil⟩;exact⟨[],[],hk,rfl,.nil⟩
 grind
 rename_i k;simp only[gH,yR2]at hk;obtain⟨ob,hg,hk⟩:=hk;cases ob with
 |lst ty e' g rows=>
  simp only[aW]at hk;by_cases a:e'=e;subst a;rw[aF3 rfl,zE2]at hk;rcases kI hv with⟨id,ver,i,len,b,rfl⟩|⟨b,hy⟩
  obtain⟨_,rfl,hlen,els,d,hr,f,_⟩:=lC c hg b;subst hlen;refine⟨rows,els.take rows.length,hk,?_,hr⟩;simp only[Sim.rowsOf,d];rw[yY2 ⟨by trivial,by trivial,by omega⟩,aO3];have:=mE c hg b;subst this;rcases hy with rfl|rfl;exact⟨[],[],hk,rfl,.nil⟩;exact⟨[],[],hk,rfl,.nil⟩
  grind
 |_=>exact aD hk
 rw[gT hv];exact⟨[],[],hk,rfl,.nil⟩;exact aD hk
def mv (C:Cx) (k:Nat) (pl:Pl):Cx:=⟨fun j=>if j=k then some pl else C j,C.z,C.w⟩
def fB (C:Cx) (k:Nat) (pl:Pl):kA k C (mv C k pl):=⟨fun j a=>zB2 a,fun _ _ h=>h⟩
def pP (C:Cx) (k:Nat) (pl:Pl):mv C k pl k=some pl:=yY2 rfl
def kA.self {k} {C}:kA k C C:=⟨fun _ _=>rfl,fun _ _ h=>h⟩
theorem Fu {k} {po po'} {h1} {C'} (hg:aG h k=some po) (hkl:tQ k h h1) (hb:gB po'=false) (c:kA k C C'):
  ∀j o,aG h j=some o->∃o',aG (cC h1 k po') j=some o'/\(gB o'=true->gB o=true/\C' j=C j):=by
 intro j o a
 have d:(aG h1 k).isSome=true:=by
  cases hc:aG h1 k with
  |none=>rw[(hkl.1 k).1 hc]at hg;cases hg
  |some o=>rfl
 rw[dI];by_cases b:j=k
 grind
 rw[zB2 (fun h=>b h.1)];cases hc:aG h1 j with
 |none=>rw[(hkl.1 j).1 hc]at a;cases a
 |some o'=>
  obtain⟨f,q1,e,_⟩:=hkl.2 j o' hc;rw[a]at q1;cases q1;exact⟨o',rfl,fun h=>⟨by rw[<-e];exact h,c.1 j b⟩⟩
theorem Pr (c:cM C n h lim s) {k id ver e len} {po po2} {h1} {s'} (hg:aG h k=some po) (hkl:tQ k h h1)
  (hs:s.n<=s'.n) (hw:Wf s'.h s'.n) (E:Sk s.h s'.h s.n) (b:∀i,i<s.n->i≠id->Sim.look s'.h i=Sim.look s.h i) (a:s.n<=id\/∃v e l,C k=some (.atp id v e l))
  (K:fI (mv C k (.atp id ver e len)) (Sim.look s'.h) lim s'.n po2 (.atp id ver e len)) (B:gB po2=false):
  cM (mv C k (.atp id ver e len)) n (cC h1 k po2) lim s'/\Fr C h s (mv C k (.atp id ver e len)) (cC h1 k po2) s':=by
 have D:(aG h1 k).isSome=true:=by
  cases hc:aG h1 k with
  |none=>rw[(hkl.1 k).1 hc]at hg;cases hg
  |some o=>rfl
 have p:∀j,aG (cC h1 k po2) j=if j=k then some po2 else aG h1 j:=fun j=>by
  rw[dI];simp[D]
 have d:∀j,aG (cC h1 k po2) j≠none->aG h j≠none:=fun j g=>by
  rw[p]at g;split at g
  grind
  exact fun hc=>g ((hkl.1 j).2 hc)
 have u:C.w id=none:=by
  rcases a with a|⟨v',e',l',a⟩
  cases f:C.w id with
  |none=>rfl
  |some sl=>have:=(c.hr.wb id sl f).1;omega
  exact c.hr.wn k id v' e' l' (by rw[hg];simp) a
 have q:∀j v e l,j≠k->aG h j≠none->C j≠some (.atp id v e l):=by
  intro j v e2 l g G hc;rcases a with a|⟨v',e',l',a⟩
  have:=(c.hr.lt G hc).2;omega;exact g (c.hr.inj j k id _ _ _ _ _ _ G (by rw[hg];simp) hc a)
 refine⟨⟨⟨fun j o g=>?_,fun j r i v1 m y v2 e2 M a1 a2 a3 a4=>?_,fun i o L=>?_,fun j i v1 m y a1 a2=>?_,fun i sl hw=>⟨aE3 (c.hr.wb i sl hw).1 hs,aE3 (c.hr.wb i sl hw).2 hs⟩,c.hr.wz⟩,fun j pl g=>?_,hw,zX2 c.lim hs⟩,⟨E,hs,fun i hi hn=>b i hi (fun m=>hn ?_),fun i hi hn=>?_,Fu hg hkl B (fB C k _),fun _ _ h=>h,fun _ _ h=>.inl h⟩⟩;rw[p]at g;split at g;rename_i m;subst m;cases g;exact⟨_,pP C j _,K⟩;rename_i z;obtain⟨N,q1,O,q2⟩:=hkl.2 j o g;obtain⟨pl,x,A⟩:=c.hr.ob j N q1;refine⟨pl,((fB C k _).1 j z).trans x,?_⟩;have H:fI (mv C k (.atp id ver e len)) (Sim.look s.h) lim s.n o pl:=q2 (fB C k _) rfl A;refine H.mono hs (.refl _) (fun i v1 m y hp=>?_) (fun J sl f=>⟨f,b J (c.hr.wb J sl f).1 fun e2=>by rw[e2]at f;rw[show(mv C k (.atp id ver e len)).w=C.w from rfl,u]at f;cases f⟩);subst hp;exact b i H.lt.2 (fun e2=>by subst e2;exact q j _ _ _ z (by rw[q1];simp) x);by_cases b1:j=k;by_cases b2:r=k;rw[b1,b2];exfalso;subst b1;rw[pP]at a3;cases a3;rw[(fB C j _).1 r b2]at a4;exact q r _ _ _ b2 (d r a2) a4;by_cases b2:r=k;exfalso;subst b2;rw[pP]at a4;cases a4;rw[(fB C r _).1 j b1]at a3;exact q j _ _ _ b1 (d j a1) a3;rw[(fB C k _).1 j b1]at a3;rw[(fB C k _).1 r b2]at a4;exact c.hr.inj j r i v1 m y v2 e2 M (d j a1) (d r a2) a3 a4;obtain⟨z1,z2,z3,z4⟩:=c.hr.zr i o L;have t:i≠id:=fun m=>by grind
 refine⟨(b i z2 t).trans z1,aE3 z2 hs,fun j v e' l h1 h2=>?_,z4⟩;by_cases b1:j=k;subst b1;rw[pP]at h2;cases h2;exact t rfl;exact z3 j v e' l (d j h1) (((fB C k _).1 j b1).symm.trans h2);by_cases b1:j=k;subst b1;rw[pP]at a2;cases a2;exact u;exact c.hr.wn j i v1 m y (d j a1) (((fB C k _).1 j b1).symm.trans a2);by_cases b1:j=k;subst b1;obtain⟨F,x,_⟩:=c.hr.ob j _ hg;exact c.dom j F x;exact c.dom j pl (((fB C k _).1 j b1).symm.trans g);subst m;rcases a with a|⟨v',e',l',a⟩
 omega;exact .inl ⟨k,v',e',l',by rw[hg];simp,a⟩;rcases hn with⟨j,v1,m,y,x,A⟩|hn;by_cases b1:j=k;subst b1;rw[pP]at A;cases A;rcases a with a|⟨v',e',l',a⟩
 omega;exact .inl ⟨j,v',e',l',by rw[hg];simp,a⟩;exact .inl ⟨j,v1,m,y,d j x,((fB C k _).1 j b1).symm.trans A⟩;exact .inr hn
end
end Go.P
