import Derived.Test.YtcbmkpbljlaghaaGreatLaB
/- A text of the proof. -/
set_option linter.all false
namespace Go.P
open Go.Sim (fC CK Ex RV maxRoom)
inductive PV where
 |v (x:Value)
 |is (esz:Nat) (rows:List (List PV))
 |ip (cells:List PV)
 |im (es:List (PV×PV))
 |ref (k o:Nat)
 |own (k:Nat)
 |el (k i o:Nat)
 |map (k:Nat)
 |fn (f:FuncId) (first cap:List PV)
 |agg (cells:List PV)
 |tup (vs:List PV)
 |undef
 |yld (k:Nat)
 |zs (d e:Nat) (rows:List (List PV))
 |zm (es:List (PV×PV))
 deriving Inhabited
inductive PX where
 |t (i:Nat)
 |c (x:PV)
 deriving Inhabited
inductive iT where
 |nil
 |op (d:Nat) (k:fC) (xs:List PX) (kill:List Nat) (cU:iT)
 |sto (k:fC) (xs:List PX) (kill:List Nat) (cU:iT)
 |ifx (d c:Nat) (w:Bool) (body:iT) (x:PX) (kill:List Nat) (cU:iT)
 |ifn (d c:Nat) (w:Bool) (body:iT) (x:PX) (kill:List Nat) (cU:iT)
 |mkfl (d:Nat) (ty:TypeId) (zero:List Value) (xs:List PX) (kill:List Nat) (cU:iT)
 |lax (d:Nat) (es:List (Option Nat)) (cU:iT)
 |own (d:Nat) (ty:TypeId) (e:Nat) (g:Bool) (cU:iT)
 |ownc (d j:Nat) (ty:TypeId) (e:Nat) (g:Bool) (cU:iT)
 |laxc (d j e:Nat) (cU:iT)
 |fz (d:Nat) (j:Option Nat) (cU:iT)
 |laxm (d:Nat) (j:Option Nat) (cU:iT)
 deriving Inhabited
inductive PC where
 |skip
 |reg (ops:iT)
 |regD (dr:Nat) (ops:iT) (before:List Nat)
 |dead (c:Go.Sim.IC)
 |regX (dr:Nat) (ops:iT) (before:List Nat) (ex:List (Nat×Nat×Nat×Nat))
 |seq (a b:PC)
 |cond (c:PX) (a b:PC)
 |condJ (keep:List Nat) (c:PX) (a b:PC)
 |condL (c:PX) (a b:PC)
 |block (id:Nat) (c:PC)
 |loop (keep kx:List Nat) (c:PC)
 |loopU (m:Nat) (keep:List Nat) (c:PC)
 |rangeF (N:Nat) (keep:List Nat) (f:PX) (params:List Nat) (asn body:PC)
 |exit (id:Nat)
 |ret
 deriving Inhabited
abbrev fH:=aA (Nat×PV)
inductive fQ where
 |box (cells:List PV)
 |lst (ty:TypeId) (esz:Nat) (g:Bool) (rows:List (List PV))
 |mp (es:List (PV×PV))
 |fl (fs:List PV)
 |lz (ty:TypeId) (esz dp:Nat) (rows:List (List PV))
 |loop (N:Nat) (e:fH) (params:List Nat) (asn body:PC) (busy:Bool) (fin:Option Ex)
abbrev bC:=aA (Nat×fQ)
def iC (ty:Nat):Bool:=Nat.ble 4294967296 ty
def Dx (ty:Nat):Nat:=bif iC ty then ty-4294967296 else ty
theorem aI1:∃f:{R:Type}->Bool->aB R->aB R->aB R,∀{R:Type} b (x y:aB R),f b x y=if b then x else y:=⟨fun b x y=>if b then x else y,fun _ _ _=>rfl⟩
noncomputable def Lj {R:Type} (b:Bool) (x y:aB R):aB R:=Classical.choose aI1 b x y
theorem oZ {R:Type} (b:Bool) (x y:aB R):Lj b x y=if b then x else y:=zO2 aI1 b x y
theorem Lk:∃f:{A R:Type}->aB A->(A->aB R)->aB R,∀{A R:Type} (x:aB A) (k:A->aB R),f x k=x.bind k:=⟨fun x k=>x.bind k,fun _ _=>rfl⟩
noncomputable def cQ {A R:Type} (x:aB A) (k:A->aB R):aB R:=Classical.choose Lk x k
theorem cH {A R:Type} (x:aB A) (k:A->aB R):cQ x k=x.bind k:=zO2 Lk x k
noncomputable section
variable {R:Type}
def Pt (x:Value) (K:Value->aB R):aB R:=
 match x with
 |.int k n=>K (.int k n)
 |.bool b=>K (.bool b)
 |.string s=>K (.string s)
 |x=>K x
def fPV (x:PV) (K:PV->aB R):aB R:=
 match x with
 |.v x=>Pt x fun x=>K (.v x)
 |.is e rows=>K (.is e rows)
 |.ip cs=>K (.ip cs)
 |.im es=>K (.im es)
 |.ref k o=>K (.ref k o)
 |.own k=>K (.own k)
 |.el k i o=>K (.el k i o)
 |.map k=>K (.map k)
 |.fn f a b=>K (.fn f a b)
 |.agg cs=>K (.agg cs)
 |.tup cs=>K (.tup cs)
 |.undef=>K .undef
 |.yld k=>K (.yld k)
 |.zs d e rows=>K (.zs d e rows)
 |.zm es=>K (.zm es)
def uQ:aA PV->(aA PV->aB R)->aB R
 |[],K=>K []
 |x::xs,K=>fPV x fun x=>uQ xs fun xs=>K (x::xs)
def fV (x:PV) (K:PV->aB R):aB R:=
 match x with
 |.v x=>Pt x fun x=>K (.v x)
 |.agg cs=>uQ cs fun cs=>K (.agg cs)
 |.tup cs=>fT cs fun cs=>K (.tup cs)
 |.ip cs=>uQ cs fun cs=>K (.ip cs)
 |.is e rows=>K (.is e rows)
 |.im es=>K (.im es)
 |.ref k o=>K (.ref k o)
 |.own k=>K (.own k)
 |.el k i o=>K (.el k i o)
 |.map k=>K (.map k)
 |.fn f a b=>uQ a fun a=>uQ b fun b=>K (.fn f a b)
 |.undef=>K .undef
 |.yld k=>K (.yld k)
 |.zs d e rows=>K (.zs d e rows)
 |.zm es=>K (.zm es)
 where
 fT:aA PV->(aA PV->aB R)->aB R
 |[],K=>K []
 |x::xs,K=>(match x with
   |.agg cs=>uQ cs fun cs=>fT xs fun xs=>K (.agg cs::xs)
   |x=>fPV x fun x=>fT xs fun xs=>K (x::xs))
def pW:fH->Nat->(PV->aB R)->aB R
 |[],_,_=>none
 |(j,v)::r,i,K=>bif Nat.beq j i then K v else pW r i K
def Eg:Nat->aA Nat->Bool
 |_,[]=>false
 |i,j::js=>bif Nat.beq i j then true else Eg i js
def jF:fH->aA Nat->(fH->aB R)->aB R
 |[],_,K=>K []
 |(j,v)::r,is,K=>bif Eg j is then jF r is K else jF r is fun r=>K ((j,v)::r)
def qP (e:fH):aA PX->(aA PV->aB R)->aB R
 |[],K=>K []
 |.t i::xs,K=>pW e i fun v=>qP e xs fun vs=>K (v::vs)
 |.c x::xs,K=>qP e xs fun vs=>K (x::vs)
def qQ:Nat->aA PV->(aA PV->aB R)->aB R
 |0,_,K=>K []
 |_+1,[],_=>none
 |n+1,a::as,K=>qQ n as fun l=>K (a::l)
def iL:Nat->aA PV->(aA PV->aB R)->aB R
 |0,l,K=>K l
 |_+1,[],_=>none
 |n+1,_::as,K=>iL n as K
def sZ:aA PV->Nat->aA PV->(aA PV->aB R)->aB R
 |l,0,[],K=>K l
 |[],_,_,_=>none
 |_::as,0,c::cs,K=>sZ as 0 cs fun l=>K (c::l)
 |a::as,n+1,cs,K=>sZ as n cs fun l=>K (a::l)
def hK:bC->Nat->(fQ->aB R)->aB R
 |[],_,_=>none
 |(j,v)::r,i,K=>bif Nat.beq j i then K v else hK r i K
def iM:bC->Nat->fQ->(bC->aB R)->aB R
 |[],_,_,_=>none
 |(j,v)::r,i,o,K=>bif Nat.beq j i then K ((j,o)::r)else iM r i o fun r=>K ((j,v)::r)
def nR (x:PV) (K:aA PV->aB R):aB R:=
 match x with
 |.agg cs=>K cs
 |.tup _=>none
 |.undef=>none
 |x=>K [x]
def kEq (a b:IntKind):Bool:=
 match a,b with
 |.i8,.i8|.i16,.i16|.i32,.i32|.i64,.i64|.u8,.u8|.u16,.u16|.u32,.u32|.u64,.u64=>true
 |_,_=>false
def rC1 (op:BinOp) (x y:PV) (K:PV->aB R):aB R:=
 match x,y with
 |.v x,.v y=>
  match x,y with
  |.int k a,.int k' b=>
   match op with
   |.shl=>cQ (if b<0 then none else some (k.wrap (a*2^min b.toNat k.bits))) fun r=>K (.v (.int k r))
   |.shr=>cQ (if b<0 then none else some (a.fdiv (2^min b.toNat k.bits))) fun r=>K (.v (.int k r))
   |_=>bif kEq k k' then match op with
    |.add=>K (.v (.int k (k.wrap (a+b))))
    |.sub=>K (.v (.int k (k.wrap (a-b))))
    |.mul=>K (.v (.int k (k.wrap (a*b))))
    |.quo=>cQ (if b=0 then none else some (k.wrap (a.tdiv b))) fun r=>K (.v (.int k r))
    |.rem=>cQ (if b=0 then none else some (a.tmod b)) fun r=>K (.v (.int k r))
    |.and=>K (.v (.int k (k.wrap (BitVec.ofInt k.bits a&&&BitVec.ofInt k.bits b).toNat)))
    |.or=>K (.v (.int k (k.wrap (BitVec.ofInt k.bits a|||BitVec.ofInt k.bits b).toNat)))
    |.xor=>K (.v (.int k (k.wrap (BitVec.ofInt k.bits a^^^BitVec.ofInt k.bits b).toNat)))
    |.andNot=>K (.v (.int k (k.wrap (BitVec.ofInt k.bits a&&& ~~~ BitVec.ofInt k.bits b).toNat)))
    |.eql=>K (.v (.bool (a==b)))
    |.neq=>K (.v (.bool (a !=b)))
    |.lss=>K (.v (.bool (decide (a<b))))
    |.leq=>K (.v (.bool (decide (a<=b))))
    |.gtr=>K (.v (.bool (decide (a>b))))
    |.geq=>K (.v (.bool (decide (a>=b))))
    |_=>none
   else none
  |.string a,.string b=>
   match op with
   |.add=>cQ (if a.size+b.size<=2^62 then some (a++b)else none) fun r=>K (.v (.string r))
   |.eql=>K (.v (.bool (a.toList==b.toList)))
   |.neq=>K (.v (.bool !(a.toList==b.toList)))
   |.lss=>K (.v (.bool (Op.bytesLess a.toList b.toList)))
   |.leq=>K (.v (.bool (Op.bytesLess a.toList b.toList||a.toList==b.toList)))
   |.gtr=>K (.v (.bool !(Op.bytesLess a.toList b.toList||a.toList==b.toList)))
   |.geq=>K (.v (.bool !(Op.bytesLess a.toList b.toList)))
   |_=>none
  |_,_=>none
 |_,_=>none
def hO1:aA CK->aA PV->aA PV->(Bool->aB R)->aB R
 |[],[],[],K=>K true
 |k::ks,a::as,b::bs,K=>hO1 ks as bs fun r=>match k,a,b with
  |.i,.v (.int j x),.v (.int j' y)=>bif kEq j j' then K ((x==y)&&r)else none
  |.b,.v (.bool x),.v (.bool y)=>K ((x==y)&&r)
  |.s,.v (.string x),.v (.string y)=>K ((x==y)&&r)
  |_,_,_=>none
 |_,_,_,_=>none
def tA (rows:aA (aA PV)) (i:Int):aB (aA PV):=if 0<=i then rows[i.toNat]? else none
def qR (n:Nat) (i:Int):aB Nat:=if 0<=i/\i<n then some i.toNat else none
def oD (rows:aA (aA PV)) (l h:Int):aB (aA (aA PV)):=
 if 0<=l/\l<=h/\h<=rows.length then some ((rows.drop l.toNat).take (h.toNat-l.toNat))else none
def qS (s:ByteArray) (i:Int):aB Int:=if 0<=i then(s.data.toList[i.toNat]?).map fun b=>(b.toNat:Int)else none
def Bi (rows:aA (aA PV)) (i o:Nat) (cs:aA PV):aB (aA (aA PV)):=
 match rows[i]? with
 |some row=>if o+cs.length<=row.length then some (rows.set i (Sim.setL row o cs))else none
 |none=>none
def Bj (rows:aA (aA PV)) (i o:Nat):aB PV:=(rows[i]?).bind fun row=>row[o]?
def uR (rows:aA (aA PV)) (i o n:Nat):aB (aA PV):=(rows[i]?).bind fun row=>if o+n<=row.length then some ((row.drop o).take n)else none
def uS (cs:aA PV) (i:Int) (len esz:Nat):aB PV:=if 0<=i/\i<len then cs[i.toNat*esz]? else none
def qT (cs:aA PV) (i:Int) (len esz:Nat):aB (aA PV):=if 0<=i/\i<len/\(i.toNat+1)*esz<=cs.length then some ((cs.drop (i.toNat*esz)).take esz)else none
def byteRows (s:ByteArray):aA (aA PV):=s.data.toList.map fun b=>[.v (.int .u8 b.toNat)]
def appRows (g:Bool) (rows new:aA (aA PV)):aB (aA (aA PV)):=
 if rows.length+new.length<=maxRoom/\(g=true->new.length<=1)then some (rows++new)else none
def rQ (rows:aA (aA PV)) (h:Int):aB (aA (aA PV)):=if 0<=h/\h<=rows.length then some (rows.take h.toNat)else none
def qU (l c:Int) (zero:aA PV):aB (aA (aA PV)):=if 0<=l/\l<=c/\c<=maxRoom then some (List.replicate l.toNat zero)else none
def pA:CK->PV->PV->aB Bool
 |.i,.v (.int k a),.v (.int k' b)=>if k=k' then some (a==b)else none
 |.b,.v (.bool a),.v (.bool b)=>some (a==b)
 |.s,.v (.string a),.v (.string b)=>some (a==b)
 |_,_,_=>none
def kH:aA CK->aA PV->aA PV->aB Bool
 |[],[],[]=>some true
 |k::ks,a::as,b::bs=>match pA k a b with
  |some true=>kH ks as bs
  |some false=>some false
  |none=>none
 |_,_,_=>none
def qV (agg:Bool) (ks:aA CK) (a b:PV):aB Bool:=
 if agg then match a,b with
  |.agg as,.agg bs=>if as.length=ks.length/\bs.length=ks.length then kH ks as bs else none
  |_,_=>none
 else kH ks [a] [b]
def uT (agg:Bool) (ks:aA CK) (k:PV):aA (PV×PV)->Nat->aB (aB (Nat×PV))
 |[],_=>some none
 |(k',x)::r,i=>match qV agg ks k k' with
  |some true=>some (some (i,x))
  |some false=>uT agg ks k r (i+1)
  |none=>none
def wP (agg:Bool) (ks:aA CK):PV->Bool
 |.agg as=>agg&&as.length==ks.length
 |.v _=> !agg
 |_=>false
def tB (agg:Bool) (ks:aA CK) (zero k:PV) (es:aA (PV×PV)):aB PV:=
 if wP agg ks k then(uT agg ks k es 0).map fun r=>match r with|some (_,x)=>x|none=>zero else none
def pB (agg:Bool) (ks:aA CK) (zero k:PV) (es:aA (PV×PV)):aB (PV×Bool):=
 if wP agg ks k then(uT agg ks k es 0).map fun r=>match r with|some (_,x)=>(x,true)|none=>(zero,false)else none
def Bl (agg:Bool) (ks:aA CK) (k x:PV) (es:aA (PV×PV)):aB (aA (PV×PV)):=
 if wP agg ks k then(uT agg ks k es 0).map fun r=>match r with|some (i,_)=>es.set i (k,x)|none=>es++[(k,x)]else none
def dY:Nat->PV->Bool
 |0,_=>false
 |d+1,x=>match x with
  |.v _|.is _ _|.ip _|.im _=>true
  |.fn _ a b=>a.all (dY d)&&b.all (dY d)
  |.agg cs=>cs.all (dY d)
  |.tup cs=>cs.all (dY d)
  |_=>false
def gC:PV->Bool
 |.v _|.is _ _|.ip _=>true
 |_=>false
def Pu:PV->Bool
 |.agg cs=>cs.all gC
 |x=>gC x
def tC:Nat->PV->Bool
 |0,_=>false
 |d+1,x=>match x with
  |.v _=>true
  |.agg cs=>cs.all (tC d)
  |.tup cs=>cs.all (tC d)
  |_=>false
def sD (f:PV->(PV->aB R)->aB R):aA PV->(aA PV->aB R)->aB R
 |[],K=>K []
 |x::xs,K=>f x fun x=>sD f xs fun xs=>K (x::xs)
def Hw (h:bC):Nat->PV->(PV->aB R)->aB R
 |0,_,_=>none
 |d+1,x,K=>match x with
  |.own k=>hK h k fun ob=>match ob with
   |.lst _ e _ rows=>K (.is e rows)
   |.lz _ e dp rows=>bif Nat.ble dp 4 then K (.is e rows)else none
   |_=>none
  |.zs dp e rows=>bif Nat.ble dp 5 then K (.is e rows)else none
  |.map k=>hK h k fun ob=>match ob with
   |.mp es=>K (.im es)
   |_=>none
  |.ref k o=>hK h k fun ob=>match ob with
   |.box cs=>iL o cs fun cs=>sD (Hw h d) cs fun cs=>K (.ip cs)
   |_=>none
  |.fn f a b=>sD (Hw h d) a fun a=>sD (Hw h d) b fun b=>K (.fn f a b)
  |.agg cs=>sD (Hw h d) cs fun cs=>K (.agg cs)
  |.v x=>K (.v x)
  |.is e rows=>K (.is e rows)
  |.ip cs=>K (.ip cs)
  |.im es=>K (.im es)
  |_=>none
def eH (k:Nat):Nat->PV->(PV->aB R)->aB R
 |0,_,K=>K .undef
 |d+1,x,K=>match x with
  |.own j=>bif Nat.beq j k then K .undef else K (.own j)
  |.el j i o=>bif Nat.beq j k then K .undef else K (.el j i o)
  |.ref j o=>bif Nat.beq j k then K .undef else K (.ref j o)
  |.map j=>bif Nat.beq j k then K .undef else K (.map j)
  |.yld j=>bif Nat.beq j k then K .undef else K (.yld j)
  |.fn f a b=>kills d a fun a=>kills d b fun b=>K (.fn f a b)
  |.agg cs=>kills d cs fun cs=>K (.agg cs)
  |.tup cs=>kills d cs fun cs=>K (.tup cs)
  |x=>K x
 where
 kills (d:Nat):aA PV->(aA PV->aB R)->aB R
 |[],K=>K []
 |x::xs,K=>eH k d x fun x=>kills d xs fun xs=>K (x::xs)
def pQ (k:Nat):fH->(fH->aB R)->aB R
 |[],K=>K []
 |(j,v)::r,K=>eH k 3 v fun v=>pQ k r fun r=>K ((j,v)::r)
def lF (k:Nat):bC->(bC->aB R)->aB R
 |[],K=>K []
 |(j,o)::r,K=>match o with
  |.box cs=>eH.kills k 2 cs fun cs=>lF k r fun r=>K ((j,.box cs)::r)
  |.lst ty e g rows=>lF k r fun r=>K ((j,.lst ty e g rows)::r)
  |.mp es=>lF k r fun r=>K ((j,.mp es)::r)
  |.lz ty e dp rows=>lF k r fun r=>K ((j,.lz ty e dp rows)::r)
  |.fl fs=>eH.kills k 2 fs fun fs=>lF k r fun r=>K ((j,.fl fs)::r)
  |.loop N e ps a b busy fin=>pQ k e fun e=>lF k r fun r=>K ((j,.loop N e ps a b busy fin)::r)
def aJ1 (h:bC) (e:Nat) (x:PV) (K:aA (aA PV)->aB R):aB R:=
 match x with
 |.is e' rows=>bif Nat.beq e' e then K rows else none
 |.own k=>hK h k fun ob=>match ob with
  |.lst _ e' _ rows=>bif Nat.beq e' e then K rows else none
  |_=>none
 |.v (.slice none 0 0)=>K []
 |_=>none
def zA (lo hi:Bool) (len:Nat) (a:aA PV) (K:Int->Int->aB R):aB R:=
 match lo,hi,a with
 |false,false,[]=>K 0 len
 |true,false,[.v (.int _ l)]=>K l len
 |false,true,[.v (.int _ h)]=>K 0 h
 |true,true,[.v (.int _ l),.v (.int _ h)]=>K l h
 |_,_,_=>none
def Ll:aA PV->aA (Nat×Nat)->aA PV->(aA PV->aB R)->aB R
 |cells,[],[],K=>K cells
 |cells,(off,n)::ps,x::xs,K=>nR x fun cs=>bif Nat.beq cs.length n then sZ cells off cs fun cells=>Ll cells ps xs K else none
 |_,_,_,_=>none
def uU (e:Nat):aA PV->(aA (aA PV)->aB R)->aB R
 |[],K=>K []
 |x::xs,K=>nR x fun cs=>bif Nat.beq cs.length e&&cs.all gC then uU e xs fun r=>K (cs::r)else none
def aK1:PV->aB (Nat×PV)
 |.zs d e rows=>some (d,.is e rows)
 |x=>bif gC x then some (0,x)else none
def Bm:aA PV->aB (Nat×aA PV)
 |[]=>some (0,[])
 |x::xs=>match aK1 x,Bm xs with
  |some (d,y),some (d',ys)=>some (bif Nat.blt d d' then d' else d,y::ys)
  |_,_=>none
def fD (d:Nat) (K:Nat->aB R):aB R:=match d with
 |0=>K 0
 |1=>K 1
 |2=>K 2
 |3=>K 3
 |4=>K 4
 |d=>K d
def Bn (e:Nat):aA PV->(Nat->aA (aA PV)->aB R)->aB R
 |[],K=>K 0 []
 |x::xs,K=>nR x fun cs=>match Bm cs with
  |some (d,ys)=>bif Nat.beq ys.length e then Bn e xs fun a r=>fD (bif Nat.blt d a then a else d) fun m=>K m (ys::r)else none
  |none=>none
def aL1:PV->Bool
 |.agg cs=>cs.all gC
 |x=>gC x
def Vt:Nat->aA Nat->Bool
 |_,[]=>true
 |i,j::js=>bif Nat.beq i j then Vt (i+1) js else false
def hP1 (i:Int) (K:Nat->aB R):aB R:=
 match i with
 |.ofNat i=>K i
 |_=>none
def Lm (i:Int):Nat->(Nat->aB R)->aB R
 |0,_=>none
 |m+1,K=>Lj (i==(m:Int)) (K m) (Lm i m K)
def eC (k:fC) (xs:aA PV) (h:bC) (n:Nat) (K:PV->bC->Nat->aB R):aB R:=
 match k,xs with
 |.mov,[x]=>K x h n
 |.nilc,[x]=>match x with
  |.ref .. |.ip .. |.el .. |.fn .. |.yld .. =>K x h n
  |_=>none
 |.box _ size,[x]=>nR x fun cs=>bif Nat.beq cs.length size then(bif Nat.beq size 0 then none else K (.ref n 0) ((n,.box cs)::h) (n+1))else none
 |.alloc _ zero,[]=>uQ (zero.map .v) fun cs=>K (.ref n 0) ((n,.box cs)::h) (n+1)
 |.build zero parts,xs=>uQ (zero.map .v) fun cs=>Ll cs parts xs fun cs=>K (.agg cs) h n
 |.buildSl ty e len zero parts,xs=>bif Vt 0 parts&&(Nat.beq zero.length e&& !(iC ty))then(bif Nat.beq parts.length len then bif xs.all aL1 then uU e xs fun rows=>bif Nat.beq rows.length len then K (.own n) ((n,.lst ty e false rows)::h) (n+1)else none else Bn e xs fun dp rows=>bif Nat.beq rows.length len then K (.own n) ((n,.lz ty e dp rows)::h) (n+1)else none else none)else none
 |.loadS,[p]=>match p with
  |.ref k o=>hK h k fun ob=>match ob with
   |.box cs=>iL o cs fun cs=>match cs with
    |c::_=>K c h n
    |[]=>none
   |_=>none
  |.ip cs=>match cs with
   |c::_=>K c h n
   |[]=>none
  |.el k i o=>hK h k fun ob=>match ob with
   |.lst _ _ _ rows=>cQ (Bj rows i o) fun c=>K c h n
   |.fl fs=>bif Nat.beq o 0 then(iL i fs fun fs=>match fs with
    |f::_=>K f h n
    |[]=>none)else none
   |_=>none
  |_=>none
 |.loadA m,[p]=>match p with
  |.ref k o=>hK h k fun ob=>match ob with
   |.box cs=>iL o cs fun cs=>qQ m cs fun cs=>K (.agg cs) h n
   |_=>none
  |.ip cs=>qQ m cs fun cs=>K (.agg cs) h n
  |.el k i o=>hK h k fun ob=>match ob with
   |.lst _ _ _ rows=>cQ (uR rows i o m) fun cs=>K (.agg cs) h n
   |_=>none
  |_=>none
 |.store m,[p,x]=>match p with
  |.ref k o=>hK h k fun ob=>match ob with
   |.box cs=>nR x fun ys=>bif Nat.beq ys.length m then sZ cs o ys fun cs=>iM h k (.box cs) fun h=>K .undef h n else none
   |_=>none
  |.el k i o=>hK h k fun ob=>match ob with
   |.lst ty e g rows=>nR x fun ys=>bif Nat.beq ys.length m&&ys.all gC then cQ (Bi rows i o ys) fun rows=>iM h k (.lst ty e g rows) fun h=>K .undef h n else none
   |_=>none
  |_=>none
 |.fad off,[p]=>match p with
  |.ref k o=>K (.ref k (o+off)) h n
  |.ip cs=>iL off cs fun cs=>K (.ip cs) h n
  |.el k i o=>K (.el k i (o+off)) h n
  |_=>none
 |.iad e,[x,i]=>match i with
  |.v (.int _ i)=>match x with
   |.is e' rows=>bif Nat.beq e' e then cQ (tA rows i) fun row=>K (.ip row) h n else none
   |.own k=>hK h k fun ob=>match ob with
    |.lst _ e' _ rows=>bif Nat.beq e' e then cQ (qR rows.length i) fun i=>K (.el k i 0) h n else none
    |.fl fs=>bif Nat.beq e 1 then hP1 i (fun i=>bif Nat.blt i fs.length then K (.el k i 0) h n else none)else none
    |_=>none
   |_=>none
  |_=>none
 |.iadA len esz,[p,i]=>match i with
  |.v (.int _ i)=>match p with
   |.ref k o=>Lm i len fun j=>K (.ref k (o+j*esz)) h n
   |_=>none
  |_=>none
 |.idxStr,[x,i]=>match x,i with
  |.v (.string s),.v (.int _ i)=>cQ (qS s i) fun b=>K (.v (.int .u8 b)) h n
  |_,_=>none
 |.idxA len e agg,[x,i]=>match x,i with
  |.agg cs,.v (.int _ i)=>bif agg then cQ (qT cs i len e) fun cs=>K (.agg cs) h n else cQ (uS cs i len e) fun c=>K c h n
  |_,_=>none
 |.bin op,[x,y]=>rC1 op x y fun v=>K v h n
 |.eqB neg,[x,y]=>match x,y with
  |.v (.bool a),.v (.bool b)=>K (.v (.bool ((a==b)!=neg))) h n
  |_,_=>none
 |.eqA neg ks,[x,y]=>match x,y with
  |.agg as,.agg bs=>hO1 ks as bs fun r=>K (.v (.bool (r !=neg))) h n
  |_,_=>none
 |.un op,[x]=>match op,x with
  |.not,.v (.bool b)=>K (.v (.bool !b)) h n
  |.neg,.v (.int k m)=>K (.v (.int k (k.wrap (0-m)))) h n
  |.xor,.v (.int k m)=>K (.v (.int k (k.wrap (BitVec.ofInt k.bits (if k.signed then -1 else k.max)^^^BitVec.ofInt k.bits m).toNat))) h n
  |_,_=>none
 |.convI k,[x]=>match x with
  |.v (.int _ m)=>K (.v (.int k (k.wrap m))) h n
  |_=>none
 |.s2b _,[x]=>match x with
  |.v (.string s)=>K (.is 1 (byteRows s)) h n
  |_=>none
 |.mkfn f m,xs=>match f with
  |.func f=>qQ m xs fun a=>iL m xs fun b=>K (.fn f a b) h n
  |_=>none
 |.mkmap,[]=>K (.map n) ((n,.mp [])::h) (n+1)
 |.mksl ty e _ zero,[l,c]=>match l,c with
  |.v (.int _ l),.v (.int _ c)=>bif iC ty then none else uQ (zero.map .v) fun z=>cQ (qU l c z) fun rows=>K (.own n) ((n,.lst ty e true rows)::h) (n+1)
  |_,_=>none
 |.slc e lo hi mx,x::bs=>bif mx then none else match x with
  |.is e' rows=>bif Nat.beq e' e then zA lo hi rows.length bs fun l r=>cQ (oD rows l r) fun rows=>K (.is e rows) h n else none
  |_=>none
 |.lookup agg ks zero ok,[m,k]=>
  match zero with
  |.v z=>match m with
   |.im es=>bif dY 2 k then(bif ok then cQ (pB agg ks (.v z) k es) fun r=>K (.tup [r.1,.v (.bool r.2)]) h n else cQ (tB agg ks (.v z) k es) fun r=>K r h n)else none
   |.zm es=>bif dY 2 k then(bif ok then cQ (pB agg ks (.v z) k es) fun r=>K (.tup [r.1,.v (.bool r.2)]) h n else cQ (tB agg ks (.v z) k es) fun r=>K r h n)else none
   |.map j=>hK h j fun ob=>match ob with
    |.mp es=>bif dY 2 k then(bif ok then cQ (pB agg ks (.v z) k es) fun r=>K (.tup [r.1,.v (.bool r.2)]) h n else cQ (tB agg ks (.v z) k es) fun r=>K r h n)else none
    |_=>none
   |_=>none
  |_=>none
 |.mapup agg ks,[m,k,x]=>match m with
  |.map j=>hK h j fun ob=>match ob with
   |.mp es=>bif Pu k&&Pu x then cQ (Bl agg ks k x es) fun es=>iM h j (.mp es) fun h=>K .undef h n else none
   |_=>none
  |_=>none
 |.len kd,[x]=>match x with
  |.is _ rows=>bif Nat.beq kd 0 then cQ (some rows.length) fun m=>K (.v (.int .i64 m)) h n else none
  |.own k=>bif Nat.beq kd 0 then hK h k fun ob=>match ob with
   |.lst _ _ _ rows=>cQ (some rows.length) fun m=>K (.v (.int .i64 m)) h n
   |.lz _ _ _ rows=>cQ (some rows.length) fun m=>K (.v (.int .i64 m)) h n
   |.fl fs=>K (.v (.int .i64 fs.length)) h n
   |_=>none else none
  |.zs _ _ rows=>bif Nat.beq kd 0 then cQ (some rows.length) fun m=>K (.v (.int .i64 m)) h n else none
  |.v (.slice none 0 0)=>bif Nat.beq kd 0 then K (.v (.int .i64 0)) h n else none
  |.v (.string s)=>bif Nat.beq kd 1 then K (.v (.int .i64 s.size)) h n else none
  |_=>none
 |.ext i,[x]=>match x with
  |.tup vs=>iL i vs fun vs=>match vs with
   |v::_=>K v h n
   |[]=>none
  |_=>none
 |_,_=>none
structure NX where
 is:FuncId->Bool
 nw:FuncId->Bool
 run:{R:Type}->FuncId->List PV->bC->Nat->(PV->bC->Nat->Option R)->Option R
 yld:{R:Type}->Nat->List PV->bC->Nat->(PV->bC->Nat->Option R)->Option R
abbrev tW:=FuncId->aA PV->aB PV
def zB (h:bC):aA PV->(aA PV->aB R)->aB R
 |[],K=>K []
 |x::xs,K=>Hw h 5 x fun x=>zB h xs fun xs=>K (x::xs)
def yF (C:tW) (f:FuncId) (xs:aA PV) (h:bC) (K:PV->aB R):aB R:=
 bif xs.all (dY 4)then cQ (C f xs) fun v=>fV v K
 else zB h xs fun xs=>cQ (C f xs) fun v=>fV v fun v=>bif tC 4 v then K v else none
def So (h:bC) (es dp:Nat) (x:PV) (K:aA (aA PV)->aB R):aB R:=
 match x with
 |.is e' rows=>bif Nat.beq e' es then K rows else none
 |.own k=>hK h k fun ob=>match ob with
  |.lst _ e' _ rows=>bif Nat.beq e' es then K rows else none
  |.lz _ e' dp' rows=>bif Nat.beq e' es&&Nat.ble dp' dp then K rows else none
  |_=>none
 |.zs d e' rows=>bif Nat.beq e' es&&Nat.ble d (dp+1)then K rows else none
 |.v (.slice none 0 0)=>K []
 |_=>none
def rD1 (e:fH) (h:bC) (d ty es:Nat) (kill:aA Nat) (s x:PV) (K:fH->bC->aB R):aB R:=
 match s with
 |.own k=>hK h k fun ob=>match ob with
  |.lst ty' es' g rows=>aJ1 h es x fun new=>bif Nat.beq es' es&&(Nat.beq ty' ty&& !(iC ty'))then cQ (appRows g rows new) fun rows=>
    jF e (d::kill) fun e=>pQ k e fun e=>lF k h fun h=>iM h k (.lst ty' es' g rows) fun h=>K ((d,.own k)::e) h
   else none
  |.lz ty' es' dp rows=>So h es dp x fun new=>bif Nat.beq es' es&&(Nat.beq ty' ty&& !(iC ty'))then cQ (appRows false rows new) fun rows=>
    jF e (d::kill) fun e=>pQ k e fun e=>lF k h fun h=>iM h k (.lz ty' es' dp rows) fun h=>K ((d,.own k)::e) h
   else none
  |_=>none
 |_=>none
def qW (f:PV->aA Nat->(aA Nat->aB R)->aB R):aA PV->aA Nat->(aA Nat->aB R)->aB R
 |[],a,K=>K a
 |x::xs,a,K=>f x a fun a=>qW f xs a K
def Sp (f:PV->aA Nat->(aA Nat->aB R)->aB R):fH->aA Nat->(aA Nat->aB R)->aB R
 |[],a,K=>K a
 |(_,x)::xs,a,K=>f x a fun a=>Sp f xs a K
def lK:Nat->PV->aA Nat->(aA Nat->aB R)->aB R
 |0,_,_,_=>none
 |d+1,x,a,K=>match x with
  |.ref k _=>K (k::a)
  |.own k=>K (k::a)
  |.el k _ _=>K (k::a)
  |.map k=>K (k::a)
  |.yld k=>K (k::a)
  |.fn _ p q=>qW (lK d) p a fun a=>qW (lK d) q a K
  |.agg cs=>qW (lK d) cs a K
  |.tup cs=>qW (lK d) cs a K
  |_=>K a
def mQ (h:bC):Nat->aA Nat->aA Nat->(aA Nat->aB R)->aB R
 |0,_,_,_=>none
 |_+1,[],a,K=>K a
 |n+1,k::b,a,K=>bif Eg k a then mQ h n b a K else hK h k fun ob=>match ob with
  |.box cs=>qW (lK 4) cs b fun b=>mQ h n b (k::a) K
  |.fl cs=>qW (lK 4) cs b fun b=>mQ h n b (k::a) K
  |.loop _ e _ _ _ _ _=>Sp (lK 4) e b fun b=>mQ h n b (k::a) K
  |_=>mQ h n b (k::a) K
def Ln:bC->aA Nat->(bC->bC->aB R)->aB R
 |[],_,K=>K [] []
 |(k,o)::r,ns,K=>Ln r ns fun a b=>bif Eg k ns then K ((k,o)::a) b else K a ((k,o)::b)
def iV:bC->Nat->Bool
 |[],_=>false
 |(j,_)::r,k=>bif Nat.beq j k then true else iV r k
def mR (p:Nat->Bool):Nat->PV->Bool
 |0,_=>false
 |d+1,x=>match x with
  |.ref k _|.own k|.el k _ _|.map k|.yld k=>p k
  |.fn _ a b=>a.all (mR p d)&&b.all (mR p d)
  |.agg cs=>cs.all (mR p d)
  |.tup cs=>cs.all (mR p d)
  |_=>true
def Hx (p:Nat->Bool):fQ->Bool
 |.box cs=>cs.all (mR p 4)
 |.fl cs=>cs.all (mR p 4)
 |.loop _ e _ _ _ _ _=>e.all fun q=>mR p 4 q.2
 |_=>true
def kI (p:Nat->Bool):bC->Bool
 |[]=>true
 |(_,o)::r=>Hx p o&&kI p r
def pC:bC->fH->bC->(fH->bC->aB R)->aB R
 |[],e,h,K=>K e h
 |(k,o)::r,e,h,K=>match o with
  |.lst ty .. =>bif iC ty then pC r e h K else pQ k e fun e=>lF k h fun h=>pC r e h K
  |.lz .. =>pQ k e fun e=>lF k h fun h=>pC r e h K
  |_=>pC r e h K
def Bo:bC->bC->(bC->aB R)->aB R
 |[],b,K=>K b
 |(k,o)::r,b,K=>Bo r b fun r=>K ((k,o)::r)
def tD:bC->aA Nat
 |[]=>[]
 |(k,_)::r=>k::tD r
def Vu (hs:bC) (n:Nat):bC->Bool
 |[]=>true
 |(k,_)::r=>bif iV hs k||Nat.ble n k then Vu hs n r else false
def Vv (a:bC):aA Nat->Bool
 |[]=>true
 |k::r=>bif iV a k then Vv a r else false
def Vw (hs:bC):bC->Bool
 |[]=>true
 |(k,_)::r=>bif iV hs k then Vw hs r else false
def bnd:bC->Nat->Nat
 |[],m=>m
 |(k,_)::r,m=>bif Nat.blt k m then bnd r m else bnd r (k+1)
def Eh (hs:bC) (nw:Bool) (n:Nat) (v:PV) (h':bC) (n':Nat):aB (PV×bC×Nat):=
 qW (lK 5) [v] (tD hs) fun a=>mQ h' 60 a [] fun b=>Ln h' b fun h2 _=>
  bif Vv h2 (tD hs)&&(bif nw then Vu hs n h2 else Vw hs h2)&&(mR (iV h2) 5 v&&kI (iV h2) h2)then some (v,h2,bif nw then n' else 0)else none
def inK (run:bC->Nat->(PV->bC->Nat->aB (PV×bC×Nat))->aB (PV×bC×Nat)) (nw:Bool) (xs:aA PV) (e:fH) (h:bC) (n:Nat) (kill:aA Nat) (K:PV->fH->bC->Nat->aB R):aB R:=
 qW (lK 5) xs [] fun a=>mQ h 60 a [] fun c=>Ln h c fun hs b=>
  bif xs.all (mR (iV hs) 5)&&kI (iV hs) hs then
   cQ (run hs (bif nw then n else bnd hs 0) (Eh hs nw (bif nw then n else bnd hs 0))) fun r=>
    fV r.1 fun v=>Bo r.2.1 [] fun h2=>jF e kill fun e=>pC h2 e b fun e b=>Bo h2 b fun h=>K v e h (bif nw then r.2.2 else n)
  else none
def Pv:bC->(bC->aB R)->aB R
 |[],K=>K []
 |(k,o)::r,K=>match o with
  |.lst ty e g rows=>bif iC ty then none else Pv r fun r=>K ((k,.lst (ty+4294967296) e g rows)::r)
  |.lz .. =>none
  |o=>Pv r fun r=>K ((k,o)::r)
def yG:bC->bC->(bC->aB R)->aB R
 |_,[],K=>K []
 |h,(k,o)::r,K=>hK h k fun a=>match a with
  |.lst .. =>match o with
   |.lst ty e g rows=>bif iC ty&& !(iC (ty-4294967296))then yG h r fun r=>K ((k,.lst (ty-4294967296) e g rows)::r)else none
   |_=>none
  |_=>match o with
   |.lst .. =>none
   |.lz .. =>none
   |o=>yG h r fun r=>K ((k,o)::r)
def rE1 (fx:Bool) (run:bC->Nat->(PV->bC->Nat->aB (PV×bC×Nat))->aB (PV×bC×Nat)) (nw:Bool) (xs:aA PV) (e:fH) (h:bC) (n:Nat) (kill:aA Nat) (K:PV->fH->bC->Nat->aB R):aB R:=
 bif fx then Pv h fun h1=>inK run nw xs e h1 n kill fun v e h2 n=>yG h h2 fun h3=>K v e h3 n
 else inK run nw xs e h n kill K
def Pw (e:fH) (h:bC) (d es:Nat) (kill:aA Nat) (k:Nat) (hi:Int) (K:fH->bC->aB R):aB R:=
 hK h k fun ob=>match ob with
 |.lst ty es' _ rows=>bif Nat.beq es' es&& !(iC ty)then cQ (rQ rows hi) fun rows=>
   jF e (d::kill) fun e=>pQ k e fun e=>lF k h fun h=>iM h k (.lst ty es' true rows) fun h=>K ((d,.own k)::e) h
  else none
 |_=>none
def opK (C:tW) (X:NX) (k:fC) (as:aA PV) (h:bC) (n:Nat) (K:PV->bC->Nat->aB R):aB R:=
 match k,as with
 |.callF f,as=>bif X.is f then none else yF C f as h fun v=>K v h n
 |.callV,.fn f first cap::as=>bif X.is f then none else yF C f (first++as++cap) h fun v=>K v h n
 |k,as=>eC k as h n K
def Vx:aA (aB Nat)->aA PV->(aA PV->aB R)->aB R
 |[],[],K=>K []
 |o::os,x::xs,K=>Vx os xs fun xs=>match o with
  |none=>K (x::xs)
  |some e=>match x with
   |.v (.slice none 0 0)=>K (.is e []::xs)
   |_=>none
 |_,_,_=>none
def oE (ty e:Nat) (g:Bool):fQ:=bif Nat.ble 4294967296 e then .lz ty (e%4294967296) (e/4294967296) []else .lst ty e g []
def Sq:Bool->fQ->aB PV
 |false,.lst ty e _ rows=>bif iC ty then none else some (.zs 1 e rows)
 |false,.lz _ e dp rows=>some (.zs (dp+1) e rows)
 |true,.mp es=>some (.zm es)
 |_,_=>none
def Lo:bC->Nat->(bC->aB R)->aB R
 |[],_,K=>K []
 |(j,o)::r,k,K=>bif Nat.beq j k then Lo r k K else Lo r k fun r=>K ((j,o)::r)
def fzK (e:fH) (h:bC) (d:Nat) (m:Bool) (k:Nat) (j:aB Nat) (K:fH->bC->aB R):aB R:=
 hK h k fun ob=>match Sq m ob with
 |some x=>pQ k e fun e=>lF k h fun h=>iM h k (.lst 0 0 true []) fun h=>match j with
  |none=>jF e [d] fun e=>K ((d,x)::e) h
  |some j=>pW e d fun v=>match v with
   |.agg cs=>sZ cs j [x] fun cs=>jF e [d] fun e=>K ((d,.agg cs)::e) h
   |_=>none
 |none=>none
def Bp:PV->aB (Bool×Nat)
 |.own k=>some (false,k)
 |.map k=>some (true,k)
 |_=>none
def Lp:fC->Bool
 |.store _|.mapup .. =>true
 |_=>false
def hQ1:PV->Bool
 |.fn .. =>true
 |_=>false
def cR:iT->aA Nat->aA Nat
 |.nil,a=>a
 |.op d _ _ _ r,a=>d::cR r a
 |.sto _ _ _ r,a=>cR r a
 |.ifx d _ _ b _ _ r,a=>d::cR b (cR r a)
 |.ifn d _ _ b _ _ r,a=>d::cR b (cR r a)
 |.mkfl d _ _ _ _ r,a=>d::cR r a
 |.lax _ _ r,a=>cR r a
 |.own _ _ _ _ r,a=>cR r a
 |.ownc _ _ _ _ _ r,a=>cR r a
 |.laxc _ _ _ r,a=>cR r a
 |.fz _ _ r,a=>cR r a
 |.laxm _ _ r,a=>cR r a
def dR (C:tW) (X:NX) (dr:Nat):iT->fH->bC->Nat->(fH->bC->Nat->aB R)->aB R
 |.nil,e,h,n,K=>K e h n
 |.op d k xs kill cU,e,h,n,K=>qP e xs fun as=>
  match k,as with
  |.append ty es _ _ false,[s,x]=>rD1 e h d ty es kill s x fun e h=>dR C X dr cU e h n K
  |.slc es false true false,[.own k,.v (.int _ hi)]=>Pw e h d es kill k hi fun e h=>dR C X dr cU e h n K
  |.callF f,as=>bif X.is f then rE1 (Eg 4294967296 kill) (X.run f as) (X.nw f) as e h n (d::kill) fun v e h n=>dR C X dr cU ((d,v)::e) h n K
   else yF C f as h fun v=>jF e (d::kill) fun e=>dR C X dr cU ((d,v)::e) h n K
  |.callV,.yld k::as=>bif Nat.beq dr 3 then none else inK (X.yld k as) false (.yld k::as) e h n (d::kill) fun v e h n=>dR C X dr cU ((d,v)::e) h n K
  |.callV,.fn f first cap::as=>bif X.is f then bif Nat.beq dr 3 then none else inK (X.run f (first++as++cap)) (X.nw f) (first++as++cap) e h n (d::kill) fun v e h n=>dR C X dr cU ((d,v)::e) h n K
   else yF C f (first++as++cap) h fun v=>jF e (d::kill) fun e=>dR C X dr cU ((d,v)::e) h n K
  |k,as=>opK C X k as h n fun v h n=>jF e (d::kill) fun e=>dR C X dr cU ((d,v)::e) h n K
 |.sto k xs kill cU,e,h,n,K=>qP e xs fun as=>eC k as h n fun _ h n=>jF e kill fun e=>dR C X dr cU e h n K
 |.ifx d c w body x kill cU,e,h,n,K=>pW e c fun a=>match a with
  |.v (.bool b)=>
   cQ (bif w then Lj b (opsB C X body e h n x) (some false)else Lj b (some true) (opsB C X body e h n x))
    fun y=>jF e (d::cR body kill) fun e=>dR C X dr cU ((d,.v (.bool y))::e) h n K
  |_=>none
 |.ifn d c w body x kill cU,e,h,n,K=>pW e c fun a=>match a with
  |.v (.bool b)=>
   bif w then Lj b (dR C X dr body e h n fun e h n=>qP e [x] fun vs=>match vs with
     |[y]=>jF e (d::cR body kill) fun e=>dR C X dr cU ((d,y)::e) h n K
     |_=>none) (jF e (d::cR body kill) fun e=>dR C X dr cU ((d,.v (.bool false))::e) h n K)
   else Lj b (jF e (d::cR body kill) fun e=>dR C X dr cU ((d,.v (.bool true))::e) h n K) (dR C X dr body e h n fun e h n=>qP e [x] fun vs=>match vs with
     |[y]=>jF e (d::cR body kill) fun e=>dR C X dr cU ((d,y)::e) h n K
     |_=>none)
  |_=>none
 |.mkfl d ty zero xs kill cU,e,h,n,K=>qP e xs fun as=>bif Nat.beq zero.length 1&&as.all hQ1 then jF e (d::kill) fun e=>dR C X dr cU ((d,.own n)::e) ((n,.fl as)::h) (n+1) K else none
 |.lax d es cU,e,h,n,K=>pW e d fun v=>match v,es with
  |.v (.slice none 0 0),[some s]=>jF e [d] fun e=>dR C X dr cU ((d,.is s [])::e) h n K
  |.agg cs,es=>Vx es cs fun cs=>jF e [d] fun e=>dR C X dr cU ((d,.agg cs)::e) h n K
  |_,_=>none
 |.own d ty s g cU,e,h,n,K=>pW e d fun v=>match v with
  |.v (.slice none 0 0)=>jF e [d] fun e=>dR C X dr cU ((d,.own n)::e) ((n,oE ty s g)::h) (n+1) K
  |_=>none
 |.fz d j cU,e,h,n,K=>pW e d fun v=>match j with
  |none=>match Bp v with
   |some (m,k)=>fzK e h d m k none fun e h=>dR C X dr cU e h n K
   |none=>none
  |some j=>match v with
   |.agg cs=>iL j cs fun cs'=>match cs' with
    |c::_=>match Bp c with
     |some (m,k)=>fzK e h d m k (some j) fun e h=>dR C X dr cU e h n K
     |none=>none
    |[]=>none
   |_=>none
 |.laxm d j cU,e,h,n,K=>pW e d fun v=>match j,v with
  |none,.v (.map none)=>jF e [d] fun e=>dR C X dr cU ((d,.zm [])::e) h n K
  |some j,.ref k _=>hK h k fun ob=>match ob with
   |.box cs=>iL j cs fun cs'=>match cs' with
    |.v (.map none)::_=>sZ cs j [.zm []] fun cs=>iM h k (.box cs) fun h=>dR C X dr cU e h n K
    |_=>none
   |_=>none
  |_,_=>none
 |.laxc d j s cU,e,h,n,K=>pW e d fun v=>match v with
  |.ref k _=>hK h k fun ob=>match ob with
   |.box cs=>iL j cs fun cs'=>match cs' with
    |.v (.slice none 0 0)::_=>sZ cs j [.is s []] fun cs=>iM h k (.box cs) fun h=>dR C X dr cU e h n K
    |_=>none
   |_=>none
  |_=>none
 |.ownc d j ty s g cU,e,h,n,K=>pW e d fun v=>match v with
  |.ref k _=>hK h k fun ob=>match ob with
   |.box cs=>iL j cs fun cs'=>match cs' with
    |.v (.slice none 0 0)::_=>sZ cs j [.own n] fun cs=>iM h k (.box cs) fun h=>dR C X dr cU e ((n,oE ty s g)::h) (n+1) K
    |_=>none
   |_=>none
  |_=>none
 where
 opsB (C:tW) (X:NX):iT->fH->bC->Nat->PX->aB Bool
 |.nil,e,_,_,x=>qP e [x] fun vs=>match vs with
  |[.v (.bool b)]=>some b
  |_=>none
 |.op d k xs kill cU,e,h,n,x=>qP e xs fun as=>
  bif Lp k then none else opK C X k as h n fun v h n=>jF e (d::kill) fun e=>opsB C X cU ((d,v)::e) h n x
 |.ifx d c w body x' kill cU,e,h,n,x=>pW e c fun a=>match a with
  |.v (.bool b)=>
   cQ (bif w then Lj b (opsB C X body e h n x') (some false)else Lj b (some true) (opsB C X body e h n x'))
    fun y=>jF e (d::cR body kill) fun e=>opsB C X cU ((d,.v (.bool y))::e) h n x
  |_=>none
 |_,_,_,_,_=>none
def pR (n:Nat):Nat->PV->Bool
 |0,_=>false
 |d+1,x=>match x with
  |.ref k _|.own k|.el k _ _|.map k|.yld k=>Nat.blt k n
  |.fn _ a b=>a.all (pR n d)&&b.all (pR n d)
  |.agg cs=>cs.all (pR n d)
  |.tup cs=>cs.all (pR n d)
  |_=>true
def Sr:fH->Nat->(PV->aB R)->aB R->aB R
 |[],_,_,D=>D
 |(j,v)::r,i,K,D=>bif Nat.beq j i then K v else Sr r i K D
def Lq:fH->aA Nat->Nat->(fH->aB R)->aB R
 |_,[],_,K=>K []
 |e,i::is,n,K=>Sr e i (fun v=>bif pR n 4 v then Lq e is n fun r=>K ((i,v)::r)else none) (Lq e is n K)
def uW (n:Nat):fQ->Bool
 |.box cs=>cs.all (pR n 4)
 |.fl cs=>cs.all (pR n 4)
 |.loop _ e _ _ _ _ _=>e.all fun q=>pR n 4 q.2
 |_=>true
def Ss:bC->bC->Nat->(bC->aB R)->aB R
 |[],_,_,K=>K []
 |(k,_)::r,h,n,K=>hK h k fun o=>bif uW n o then Ss r h n fun r=>K ((k,o)::r)else none
def aZ {S E:Type} (body:S->aB (S⊕E)):Nat->S->aB E
 |0,_=>none
 |n+1,s=>(body s).bind fun r=>match r with
  |.inl s=>aZ body n s
  |.inr e=>some e
def bN:Nat:=18446744073709551616
structure Lr where
 e:fH
 h:bC
def Bq (body:fH->bC->(Ex->fH->bC->aB R)->aB R) (a:fH->bC->(Lr->aB R)->aB R):Nat->Lr->(Ex->Lr->aB R)->aB R
 |0,_,_=>none
 |m+1,s,K=>body s.e s.h fun x e h=>a e h fun s=>match x with
  |.normal=>Bq body a m s K
  |.exit i=>K (.exit i) s
  |.ret=>K .ret s
def Su:fH->aA Nat->(fH->aB R)->aB R
 |_,[],K=>K []
 |e,i::is,K=>pW e i fun v=>Su e is fun r=>K ((i,v)::r)
def mS (keep:aA Nat) (h0:bC) (n0:Nat) (e:fH) (h:bC) (K:Lr->aB R):aB R:=
 Lq e keep n0 fun e=>Ss h0 h n0 fun h=>K ⟨e,h⟩
def lk (x:Ex) (a b:aA Nat):aA Nat:=match x with
 |.normal=>a
 |_=>b
abbrev eD (X:NX) (f:FuncId) (xs:aA PV) (hs:bC) (m:Nat) (nw:Bool):aB (PV×bC×Nat):=X.run f xs hs m (Eh hs nw m)
abbrev uY (X:NX) (k:Nat) (xs:aA PV) (hs:bC) (m:Nat):aB (PV×bC×Nat):=X.yld k xs hs m (Eh hs false m)
def eW:fH->Nat->aB PV
 |[],_=>none
 |(j,v)::r,i=>if j=i then some v else eW r i
def aO:bC->Nat->aB fQ
 |[],_=>none
 |(j,v)::r,i=>if j=i then some v else aO r i
def uZ:PV->aB Nat
 |.ref k _|.own k|.el k _ _|.map k=>some k
 |_=>none
def aM1:PV->Bool
 |.ip _|.v _|.is _ _|.im _=>true
 |_=>false
def Px (h:bC) (x y:PV):Bool:=aM1 x||aM1 y||match uZ x,uZ y with
 |some k,some k'=> !Nat.beq k k'&&(aO h k).isSome&&(aO h k').isSome
 |_,_=>false
def exB (e:fH) (h:bC) (ex:aA (Nat×Nat×Nat×Nat)):Bool:=ex.all fun p=>match eW e p.2.2.1,eW e p.2.2.2 with
 |some x,some y=>Px h x y
 |_,_=>false
def gA (C:tW) (X:NX) {R:Type}:PC->fH->bC->Nat->(Ex->fH->bC->Nat->aB R)->aB R
 |.skip,e,h,n,K=>K .normal e h n
 |.reg ops,e,h,n,K=>dR C X 0 ops e h n (K .normal)
 |.regD dr ops _,e,h,n,K=>dR C X dr ops e h n (K .normal)
 |.dead _,_,_,_,_=>none
 |.regX dr ops _ ex,e,h,n,K=>dR C X dr ops e h n fun e h n=>bif exB e h ex then K .normal e h n else none
 |.seq a b,e,h,n,K=>gA C X a e h n (fun x e h n=>match x with|.normal=>gA C X b e h n K|.exit i=>K (.exit i) e h n|.ret=>K .ret e h n)
 |.cond c a b,e,h,n,K=>qP e [c] fun vs=>match vs with
  |[.v (.bool t)]=>Lj t (gA C X a e h n K) (gA C X b e h n K)
  |_=>none
 |.condJ keep c a b,e,h,n,K=>qP e [c] fun vs=>match vs with
  |[.v (.bool t)]=>cQ (Lj t (gA C X a e h n fun x e' h' _=>mS keep h n e' h' fun s=>some (x,s)) (gA C X b e h n fun x e' h' _=>mS keep h n e' h' fun s=>some (x,s)))
    fun r=>K r.1 r.2.e r.2.h n
  |_=>none
 |.block id c,e,h,n,K=>gA C X c e h n (fun x e h n=>match x with|.exit i=>bif Nat.beq i id then K .normal e h n else K (.exit i) e h n|.normal=>K .normal e h n|.ret=>K .ret e h n)
 |.loop keep kx c,e,h,n,K=>mS keep h n e h fun s0=>
   cQ (aZ (fun s:Lr=>gA C X c s.e s.h n fun x e' h' _=>mS (lk x keep kx) h n e' h' fun s'=>some (match x with|.normal=>.inl s'|x=>.inr (x,s'))) bN s0)
    fun r=>K r.1 r.2.e r.2.h n
 |.condL c a b,e,h,n,K=>qP e [c] fun vs=>match vs with
  |[.v (.bool t)]=>match t with
   |true=>gA C X a e h n K
   |false=>gA C X b e h n K
  |_=>none
 |.loopU m keep c,e,h,n,K=>mS keep h n e h fun s0=>
   Bq (fun e h K=>gA C X c e h n fun x e h _=>K x e h) (fun e' h' K=>mS keep h n e' h' K) m s0 fun x s=>K x s.e s.h n
 |.rangeF N keep f ps a b,e,h,n,K=>qP e [f] fun vs=>match vs with
  |[.fn g first cap]=>bif X.is g then Su e keep fun d=>
    inK (X.run g (first++[.yld n]++cap)) false (first++[.yld n]++cap) e ((n,.loop N d ps a b false none)::h) (n+1) [] fun _ e h m=>
     hK h n fun ob=>match ob with
     |.loop _ _ _ _ _ false fin=>Lo h n fun h=>match fin with
      |none=>K .normal e h m
      |some (.exit i)=>K (.exit i) e h m
      |some .ret=>K .ret e h m
      |some .normal=>none
     |_=>none
   else none
  |_=>none
 |.exit id,e,h,n,K=>K (.exit id) e h n
 |.ret,e,h,n,K=>K .ret e h n
end
end Go.P
namespace Go.P
open Go.Sim (AV AO Hp gP upd St IC IX Ex fC CK)
def wD1:PV->AV
 |.v x=>.v x
 |_=>.tup []
def eV:PV->AV
 |.v x=>.v x
 |.is _ []=>.v (.slice none 0 0)
 |.fn f [] []=>.fn (.func f) [] []
 |.agg cs=>.agg (cs.map wD1)
 |_=>.tup []
def isV:PV->Bool
 |.v _=>true
 |_=>false
def okC:PV->Bool
 |.v _=>true
 |.is _ []=>true
 |.fn _ [] []=>true
 |.agg cs=>cs.all isV
 |_=>false
def eX:PX->IX
 |.t i=>.t i
 |.c x=>.c (eV x)
def rR (g:aB (Nat×Bool)):iT->aA Sim.Op1
 |.nil=>[]
 |.op d k xs _ r=>⟨some d,k,xs.map eX,g⟩::rR g r
 |.sto k xs _ r=>⟨none,k,xs.map eX,g⟩::rR g r
 |.ifx d c w b x _ r=>rR (some (c,w)) b++⟨some d,.pick,if w then[.t c,eX x,.c (.v (.bool false))]else[.t c,.c (.v (.bool true)),eX x],g⟩::rR g r
 |.ifn d c w b x _ r=>rR (some (c,w)) b++⟨some d,.pick,if w then[.t c,eX x,.c (.v (.bool false))]else[.t c,.c (.v (.bool true)),eX x],g⟩::rR g r
 |.mkfl d ty zero xs _ r=>⟨some d,.buildSl ty 1 xs.length zero (List.range xs.length),xs.map eX,g⟩::rR g r
 |.lax _ _ r=>rR g r
 |.own _ _ _ _ r=>rR g r
 |.ownc _ _ _ _ _ r=>rR g r
 |.laxc _ _ _ r=>rR g r
 |.fz _ _ r=>rR g r
 |.laxm _ _ r=>rR g r
def yH:iT->Bool
 |.nil=>true
 |.lax _ _ r=>yH r
 |.own _ _ _ _ r=>yH r
 |.ownc _ _ _ _ _ r=>yH r
 |.laxc _ _ _ r=>yH r
 |.fz _ _ r=>yH r
 |.laxm _ _ r=>yH r
 |_=>false
def wE1:iT->Bool
 |.nil=>true
 |_=>false
def kR:PC->IC
 |.skip=>.skip
 |.reg ops=>.reg (rR none ops)
 |.regD _ ops before=>.regD (rR none ops) before
 |.dead c=>c
 |.regX _ ops before _=>.regD (rR none ops) before
 |.seq a b=>match a with
  |.reg ops=>if yH ops&& !wE1 ops then kR b else .seq (.reg (rR none ops)) (kR b)
  |a=>.seq (kR a) (kR b)
 |.cond c a b=>.cond (eX c) (kR a) (kR b)
 |.condJ _ c a b=>.cond (eX c) (kR a) (kR b)
 |.condL c a b=>.cond (eX c) (kR a) (kR b)
 |.block id c=>.block id (kR c)
 |.loop _ _ c=>.loop (kR c)
 |.loopU _ _ c=>.loop (kR c)
 |.rangeF _ _ f ps a b=>.rangeF (eX f) ps (kR a) (kR b)
 |.exit id=>.exit id
 |.ret=>.ret
end Go.P
namespace Go.P
open Go.Sim (AV AO Hp gP upd St IC IX Ex fC CK Wf)
inductive RC:Bool->PV->AV->Prop
 |v {p:Bool} (x:Value):RC p (.v x) (.v x)
 |is {p:Bool} {e:Nat} {rows:List (List PV)} {rows':List (List AV)} (hl:rows.length=rows'.length)
   (hr:∀(i:Nat) (r:List PV) (r':List AV),rows[i]? =some r->rows'[i]? =some r'->r.length=r'.length)
   (hc:∀(i:Nat) (r:List PV) (r':List AV) (j:Nat) (x:PV) (y:AV),rows[i]? =some r->rows'[i]? =some r'->r[j]? =some x->r'[j]? =some y->RC true x y):RC p (.is e rows) (.is e rows')
 |isn {p:Bool} {e:Nat}:RC p (.is e []) (.v (.slice none 0 0))
 |ip {p:Bool} {cs:List PV} {cs':List AV} (hl:cs.length=cs'.length) (hc:∀(j:Nat) (x:PV) (y:AV),cs[j]? =some x->cs'[j]? =some y->RC false x y):RC p (.ip cs) (.ip cs')
 |im {es:List (PV×PV)} {es':List (AV×AV)} (hl:es.length=es'.length)
   (hk:∀(j:Nat) (x:PV×PV) (y:AV×AV),es[j]? =some x->es'[j]? =some y->RC false x.1 y.1)
   (hv:∀(j:Nat) (x:PV×PV) (y:AV×AV),es[j]? =some x->es'[j]? =some y->RC false x.2 y.2):RC false (.im es) (.im es')
 |fn {f:FuncId} {a b:List PV} {a' b':List AV} (h1:a.length=a'.length) (h2:b.length=b'.length)
   (v1:∀(j:Nat) (x:PV) (y:AV),a[j]? =some x->a'[j]? =some y->RC false x y) (v2:∀(j:Nat) (x:PV) (y:AV),b[j]? =some x->b'[j]? =some y->RC false x y):RC false (.fn f a b) (.fn (.func f) a' b')
 |agg {cs:List PV} {cs':List AV} (hl:cs.length=cs'.length) (hc:∀(j:Nat) (x:PV) (y:AV),cs[j]? =some x->cs'[j]? =some y->RC false x y):RC false (.agg cs) (.agg cs')
 |tup {cs:List PV} {cs':List AV} (hl:cs.length=cs'.length) (hc:∀(j:Nat) (x:PV) (y:AV),cs[j]? =some x->cs'[j]? =some y->RC false x y):RC false (.tup cs) (.tup cs')
theorem RC.weak {p:Bool} {x:PV} {y:AV} (h:RC p x y):RC false x y:=by
 cases h with
 |v x=>exact .v x
 |is hl hr hc=>exact .is hl hr hc
 |isn=>exact .isn
 |ip hl hc=>exact .ip hl hc
 |im a b c=>exact .im a b c
 |fn a b c d=>exact .fn a b c d
 |agg a b=>exact .agg a b
 |tup a b=>exact .tup a b
theorem RC.plain {x:PV} {y:AV} (h:RC false x y) (hp:gC x=true):RC true x y:=by
 cases h with
 |v x=>exact .v x
 |is hl hr hc=>exact .is hl hr hc
 |isn=>exact .isn
 |ip hl hc=>exact .ip hl hc
 |_=>simp[gC]at hp
def LR (R:PV->AV->Prop) (xs:aA PV) (ys:aA AV):Prop:=xs.length=ys.length/\∀(j:Nat) (x:PV) (y:AV),xs[j]? =some x->ys[j]? =some y->R x y
section
variable {R:PV->AV->Prop}
theorem LR.nil:LR R [] []:=⟨rfl,fun j x y h=>by simp at h⟩
theorem LR.cons {x:PV} {y:AV} {xs:aA PV} {ys:aA AV} (h:R x y) (d:LR R xs ys):LR R (x::xs) (y::ys):=
 ⟨by simp[d.1],fun j a b c hb=>by
  cases j with
  |zero=>simp at c hb;subst c hb;exact h
  |succ j=>simp at c hb;exact d.2 j a b c hb⟩
theorem LR.head {x:PV} {y:AV} {xs:aA PV} {ys:aA AV} (h:LR R (x::xs) (y::ys)):R x y:=h.2 0 x y rfl rfl
theorem LR.tail {x:PV} {y:AV} {xs:aA PV} {ys:aA AV} (h:LR R (x::xs) (y::ys)):LR R xs ys:=
 ⟨by simpa using h.1,fun j a b c hb=>h.2 (j+1) a b (by simpa using c) (by simpa using hb)⟩
theorem LR.inv_nil {ys:aA AV} (h:LR R [] ys):ys=[]:=by
 have:=h.1;cases ys with
 |nil=>rfl
 |cons a as=>simp at this
theorem LR.inv_cons {x:PV} {xs:aA PV} {ys:aA AV} (h:LR R (x::xs) ys):∃y b,ys=y::b/\R x y/\LR R xs b:=by
 cases ys with
 |nil=>have:=h.1;simp at this
 |cons a as=>exact⟨a,as,rfl,h.head,h.tail⟩
theorem LR.append {xs xs':aA PV} {ys b:aA AV} (h:LR R xs ys) (h':LR R xs' b):LR R (xs++xs') (ys++b):=by
 induction xs generalizing ys with
 |nil=>rw[h.inv_nil];exact h'
 |cons a as ih=>
  obtain⟨y,c,rfl,h1,h2⟩:=h.inv_cons;exact .cons h1 (ih h2)
theorem LR.take {xs:aA PV} {ys:aA AV} (h:LR R xs ys) (n:Nat):LR R (xs.take n) (ys.take n):=
 ⟨by simp[h.1],fun j x y a hy=>by
  rw[xW2]at a hy
  split at a
  rename_i b
  rw[wO2 b]at hy
  exact h.2 j x y a hy
  cases a⟩
theorem LR.drop {xs:aA PV} {ys:aA AV} (h:LR R xs ys) (n:Nat):LR R (xs.drop n) (ys.drop n):=
 ⟨by simp[h.1],fun j x y a hy=>by
  rw[yG2]at a hy
  exact h.2 _ x y a hy⟩
theorem LR.get {xs:aA PV} {ys:aA AV} (h:LR R xs ys) {j:Nat} {x:PV} (b:xs[j]? =some x):∃y,ys[j]? =some y/\R x y:=by
 have a:j<ys.length:=by rw[<-h.1];exact(wI2.1 b).1
 exact⟨ys[j],by simp[a],h.2 j x _ b (by simp[a])⟩
theorem LR.mono {R':PV->AV->Prop} {xs:aA PV} {ys:aA AV} (h:LR R xs ys) (c:∀x y,R x y->R' x y):LR R' xs ys:=⟨h.1,fun j x y a b=>c x y (h.2 j x y a b)⟩
theorem LR.set {xs:aA PV} {ys:aA AV} (h:LR R xs ys) {x:PV} {y:AV} (d:R x y) (n:Nat):LR R (xs.set n x) (ys.set n y):=
 ⟨by simp[h.1],fun j a b c hb=>by
  rw[xH2]at c hb
  split at c
  rename_i e;subst e
  rw[wO2 rfl]at hb
  split at c
  split at hb
  cases c;cases hb;exact d
  cases hb
  cases c
  rename_i e
  rw[wN2 e]at hb
  exact h.2 j a b c hb⟩
theorem LR.setL {xs xs':aA PV} {ys b:aA AV} (h:LR R xs ys) (h':LR R xs' b) (o:Nat):LR R (Sim.setL xs o xs') (Sim.setL ys o b):=by
 induction xs' generalizing xs ys b o with
 |nil=>rw[h'.inv_nil];exact h
 |cons a as ih=>
  obtain⟨y,c,rfl,h1,h2⟩:=h'.inv_cons;exact ih (h.set h1 o) h2 (o+1)
end
def RR (rows:aA (aA PV)) (rows':aA (aA AV)):Prop:=
 rows.length=rows'.length/\∀(i:Nat) (r:aA PV) (r':aA AV),rows[i]? =some r->rows'[i]? =some r'->LR (RC true) r r'
theorem RR.is {p:Bool} {e:Nat} {rows:aA (aA PV)} {rows':aA (aA AV)} (h:RR rows rows'):RC p (.is e rows) (.is e rows'):=
 .is h.1 (fun i r r' a b=>(h.2 i r r' a b).1) (fun i r r' j x y a b c d=>(h.2 i r r' a b).2 j x y c d)
theorem RR.of_is {rows:aA (aA PV)} {rows':aA (aA AV)} (hl:rows.length=rows'.length)
   (hr:∀(i:Nat) (r:aA PV) (r':aA AV),rows[i]? =some r->rows'[i]? =some r'->r.length=r'.length)
   (hc:∀(i:Nat) (r:aA PV) (r':aA AV) (j:Nat) (x:PV) (y:AV),rows[i]? =some r->rows'[i]? =some r'->r[j]? =some x->r'[j]? =some y->RC true x y):RR rows rows':=
 ⟨hl,fun i r r' a b=>⟨hr i r r' a b,fun j x y c d=>hc i r r' j x y a b c d⟩⟩
theorem RR.nil:RR [] []:=⟨rfl,fun i r r' h=>by simp at h⟩
theorem RR.cons {r:aA PV} {r':aA AV} {rows:aA (aA PV)} {rows':aA (aA AV)} (h:LR (RC true) r r') (d:RR rows rows'):RR (r::rows) (r'::rows'):=
 ⟨by simp[d.1],fun j a b c hb=>by
  cases j with
  |zero=>simp at c hb;subst c hb;exact h
  |succ j=>simp at c hb;exact d.2 j a b c hb⟩
theorem RR.get {rows:aA (aA PV)} {rows':aA (aA AV)} (h:RR rows rows') {i:Nat} {r:aA PV} (hr:rows[i]? =some r):∃r',rows'[i]? =some r'/\LR (RC true) r r':=by
 have a:i<rows'.length:=by rw[<-h.1];exact(wI2.1 hr).1
 exact⟨rows'[i],by simp[a],h.2 i r _ hr (by simp[a])⟩
theorem RR.append {a b:aA (aA PV)} {a' b':aA (aA AV)} (h:RR a a') (k:RR b b'):RR (a++b) (a'++b'):=
 ⟨by simp[h.1,k.1],fun i r r' h1 h2=>by
  rw[yL2]at h1 h2
  rw[<-h.1]at h2
  split at h1
  rename_i hi;rw[wO2 hi]at h2;exact h.2 i r r' h1 h2
  rename_i hi;rw[wN2 hi]at h2;exact k.2 _ r r' h1 h2⟩
theorem RR.take {a:aA (aA PV)} {a':aA (aA AV)} (h:RR a a') (n:Nat):RR (a.take n) (a'.take n):=
 ⟨by simp[h.1],fun j x y b hy=>by
  rw[xW2]at b hy
  split at b
  rename_i c;rw[wO2 c]at hy;exact h.2 j x y b hy
  cases b⟩
theorem RR.drop {a:aA (aA PV)} {a':aA (aA AV)} (h:RR a a') (n:Nat):RR (a.drop n) (a'.drop n):=
 ⟨by simp[h.1],fun j x y b hy=>by
  rw[yG2]at b hy
  exact h.2 _ x y b hy⟩
theorem RR.set {a:aA (aA PV)} {a':aA (aA AV)} (h:RR a a') {x:aA PV} {y:aA AV} (c:LR (RC true) x y) (n:Nat):RR (a.set n x) (a'.set n y):=
 ⟨by simp[h.1],fun j p q b hb=>by
  rw[xH2]at b hb
  split at b
  rename_i e;subst e
  rw[wO2 rfl]at hb
  split at b
  split at hb
  cases b;cases hb;exact c
  cases hb
  cases b
  rename_i e
  rw[wN2 e]at hb
  exact h.2 j p q b hb⟩
theorem RR.replicate {r:aA PV} {r':aA AV} (h:LR (RC true) r r') (n:Nat):RR (List.replicate n r) (List.replicate n r'):=
 ⟨by simp,fun i x y a hy=>by
  simp only[zU2]at a hy
  split at a
  grind
  cases a⟩
def ER (es:aA (PV×PV)) (es':aA (AV×AV)):Prop:=
 es.length=es'.length/\∀(j:Nat) (x:PV×PV) (y:AV×AV),es[j]? =some x->es'[j]? =some y->RC false x.1 y.1/\RC false x.2 y.2
theorem ER.im {es:aA (PV×PV)} {es':aA (AV×AV)} (h:ER es es'):RC false (.im es) (.im es'):=.im h.1 (fun j x y a b=>(h.2 j x y a b).1) (fun j x y a b=>(h.2 j x y a b).2)
def RK (x:PV) (y:AV):Prop:=RC true x y\/∃cs cs',x=.agg cs/\y=.agg cs'/\LR (RC true) cs cs'
theorem RK.rc {x:PV} {y:AV} (h:RK x y):RC false x y:=by
 rcases h with h|⟨cs,cs',rfl,rfl,h⟩
 exact h.weak;exact .agg h.1 fun j x y a b=>(h.2 j x y a b).weak
def EM (es:aA (PV×PV)) (es':aA (AV×AV)):Prop:=
 es.length=es'.length/\∀(j:Nat) (x:PV×PV) (y:AV×AV),es[j]? =some x->es'[j]? =some y->RK x.1 y.1/\RK x.2 y.2
theorem EM.er {es:aA (PV×PV)} {es':aA (AV×AV)} (h:EM es es'):ER es es':=⟨h.1,fun j x y a b=>⟨(h.2 j x y a b).1.rc,(h.2 j x y a b).2.rc⟩⟩
inductive Pl where
 |nil
 |atp (id ver e len:Nat)
structure Cx where
 f:Nat->Option Pl
 z:Nat->Option AO
instance:CoeFun Cx fun _=>Nat->Option Pl:=⟨Cx.f⟩
def Cx.le (C C':Cx):Prop:=(∀k pl,C k=some pl->C' k=some pl)/\∀id o,C.z id=some o->C'.z id=some o
theorem Cx.le.refl (C:Cx):C.le C:=⟨fun _ _ h=>h,fun _ _ h=>h⟩
theorem Cx.le.trans {A B C:Cx} (h:A.le B) (k:B.le C):A.le C:=⟨fun a b c=>k.1 a b (h.1 a b c),fun a b c=>k.2 a b (h.2 a b c)⟩
def RZ (z:Nat->aB AO):Nat->PV->AV->Prop
 |0,x,y=>RC true x y
 |d+1,x,y=>RC true x y\/∃e rows id ver ty els,x=.is e rows/\y=.sl e id ver 0 rows.length none/\z id=some (.arr false ty e ver els)/\rows.length<=els.length/\
   ∀(i:Nat) (r:aA PV) (r':aA AV),rows[i]? =some r->els[i]? =some r'->LR (RZ z d) r r'
theorem RZ.of {z:Nat->aB AO} {d:Nat} {x:PV} {y:AV} (h:RC true x y):RZ z d x y:=by
 cases d with
 |zero=>exact h
 |succ d=>exact .inl h
theorem RZ.up1 {z:Nat->aB AO}:∀{d:Nat} {x:PV} {y:AV},RZ z d x y->RZ z (d+1) x y
 |0,_,_,h=>.inl h
 |d+1,x,y,h=>by
  rcases h with h|⟨e,rows,id,ver,ty,els,h1,h2,h3,h4,h5⟩
  exact .inl h
  exact .inr ⟨e,rows,id,ver,ty,els,h1,h2,h3,h4,fun i r r' a b=>(h5 i r r' a b).mono fun x y h=>RZ.up1 h⟩
theorem RZ.up {z:Nat->aB AO} {d a:Nat} (hd:d<=a) {x:PV} {y:AV} (h:RZ z d x y):RZ z a x y:=by
 induction hd with
 |refl=>exact h
 |step _ ih=>exact ih.up1
theorem RZ.mono {z f:Nat->aB AO} (c:∀id o,z id=some o->f id=some o):∀{d:Nat} {x:PV} {y:AV},RZ z d x y->RZ f d x y
 |0,_,_,h=>h
 |d+1,x,y,h=>by
  rcases h with h|⟨e,rows,id,ver,ty,els,h1,h2,h3,h4,h5⟩
  exact .inl h
  exact .inr ⟨e,rows,id,ver,ty,els,h1,h2,c _ _ h3,h4,fun i r r' a b=>(h5 i r r' a b).mono fun x y h=>RZ.mono c h⟩
def Fv (z:Nat->aB AO) (d:Nat) (rows:aA (aA PV)) (rows':aA (aA AV)):Prop:=
 rows.length=rows'.length/\∀(i:Nat) (r:aA PV) (r':aA AV),rows[i]? =some r->rows'[i]? =some r'->LR (RZ z d) r r'
theorem RR.z {z:Nat->aB AO} {d:Nat} {rows:aA (aA PV)} {rows':aA (aA AV)} (h:RR rows rows'):Fv z d rows rows':=⟨h.1,fun i r r' a b=>(h.2 i r r' a b).mono fun _ _ h=>RZ.of h⟩
theorem Fv.mono {z c:Nat->aB AO} (e:∀id o,z id=some o->c id=some o) {d:Nat} {rows:aA (aA PV)} {rows':aA (aA AV)} (h:Fv z d rows rows'):Fv c d rows rows':=⟨h.1,fun i r r' a b=>(h.2 i r r' a b).mono fun _ _ h=>RZ.mono e h⟩
theorem Fv.up {z:Nat->aB AO} {d c:Nat} (hd:d<=c) {rows:aA (aA PV)} {rows':aA (aA AV)} (h:Fv z d rows rows'):Fv z c rows rows':=⟨h.1,fun i r r' a b=>(h.2 i r r' a b).mono fun _ _ h=>RZ.up hd h⟩
theorem Fv.nil {z:Nat->aB AO} {d:Nat}:Fv z d [] []:=⟨rfl,fun i r r' h=>by simp at h⟩
theorem Fv.append {z:Nat->aB AO} {d:Nat} {a b:aA (aA PV)} {a' b':aA (aA AV)} (h:Fv z d a a') (k:Fv z d b b'):Fv z d (a++b) (a'++b'):=
 ⟨by simp[h.1,k.1],fun i r r' h1 h2=>by
  rw[yL2]at h1 h2
  rw[<-h.1]at h2
  split at h1
  rename_i hi;rw[wO2 hi]at h2;exact h.2 i r r' h1 h2
  rename_i hi;rw[wN2 hi]at h2;exact k.2 _ r r' h1 h2⟩
inductive RV (C:Cx):PV->AV->Prop
 |cl {x:PV} {y:AV} (h:RC false x y):RV C x y
 |undef {y:AV}:RV C .undef y
 |ref {k o id ver e len:Nat} (h:C k=some (.atp id ver e len)):RV C (.ref k o) (.ptr id ver 0 o)
 |own {k id ver e len:Nat} (h:C k=some (.atp id ver e len)):RV C (.own k) (.sl e id ver 0 len none)
 |ownn {k:Nat} {y:AV} (h:C k=some .nil) (hy:y=.v (.slice none 0 0)):RV C (.own k) y
 |el {k i o id ver e len:Nat} (h:C k=some (.atp id ver e len)):RV C (.el k i o) (.ptr id ver i o)
 |map {k id ver e len:Nat} (h:C k=some (.atp id ver e len)):RV C (.map k) (.map id)
 |fn {f:FuncId} {a b:List PV} {a' b':List AV} (h1:a.length=a'.length) (h2:b.length=b'.length)
   (v1:∀(j:Nat) (x:PV) (y:AV),a[j]? =some x->a'[j]? =some y->RV C x y) (v2:∀(j:Nat) (x:PV) (y:AV),b[j]? =some x->b'[j]? =some y->RV C x y):RV C (.fn f a b) (.fn (.func f) a' b')
 |yld {k id ver e len:Nat} (h:C k=some (.atp id ver e len)):RV C (.yld k) (.fn (.yield id) [] [])
 |agg {cs:List PV} {cs':List AV} (hl:cs.length=cs'.length) (hc:∀(j:Nat) (x:PV) (y:AV),cs[j]? =some x->cs'[j]? =some y->RV C x y):RV C (.agg cs) (.agg cs')
 |tup {cs:List PV} {cs':List AV} (hl:cs.length=cs'.length) (hc:∀(j:Nat) (x:PV) (y:AV),cs[j]? =some x->cs'[j]? =some y->RV C x y):RV C (.tup cs) (.tup cs')
 |zs {d e:Nat} {rows:List (List PV)} {y:AV} (h:RZ C.z d (.is e rows) y):RV C (.zs d e rows) y
 |zm {es:List (PV×PV)} {id:Nat} {es':List (AV×AV)} (h:C.z id=some (.map es')) (he:EM es es'):RV C (.zm es) (.map id)
 |zm0:RV C (.zm []) (.v (.map none))
theorem RV.mono {C C':Cx} (a:C.le C') {x:PV} {y:AV} (h:RV C x y):RV C' x y:=by
 induction h with
 |cl h=>exact .cl h
 |undef=>exact .undef
 |ref h=>exact .ref (a.1 _ _ h)
 |own h=>exact .own (a.1 _ _ h)
 |ownn h hy=>exact .ownn (a.1 _ _ h) hy
 |el h=>exact .el (a.1 _ _ h)
 |map h=>exact .map (a.1 _ _ h)
 |yld h=>exact .yld (a.1 _ _ h)
 |fn h1 h2 v1 v2 i1 i2=>exact .fn h1 h2 i1 i2
 |agg hl hc ih=>exact .agg hl ih
 |tup hl hc ih=>exact .tup hl ih
 |zs h=>exact .zs (RZ.mono a.2 h)
 |zm h he=>exact .zm (a.2 _ _ h) he
 |zm0=>exact .zm0
def dT (C:Cx) (e:fH) (t:aA AV):Prop:=∀i v,eW e i=some v->∃y,t[i]? =some y/\RV C v y
def StR:Bool->aB Ex->LoopState->aB IC->Prop
 |false,none,st,pend=>st=.ready/\pend=none
 |true,none,st,pend=>st=.busy
 |false,some (.exit i),st,pend=>st=.done/\pend=some (.exit i)
 |false,some .ret,st,pend=>st=.done/\pend=some .ret
 |_,_,_,_=>False
def kT (C:Cx) (L:Nat->aB AO) (lim nS:Nat):fQ->Pl->Prop
 |.box cells,.atp id ver _ _=>lim<=id/\id<nS/\∃ty esz row,L id=some (.arr true ty esz ver [row])/\LR (RV C) cells row
 |.lst _ e _ rows,.nil=>rows=[]
 |.lst ty e g rows,.atp id ver e' len=>lim<=id/\id<nS/\e'=e/\len=rows.length/\∃els,L id=some (.arr false (Dx ty) e ver els)/\RR rows (els.take rows.length)/\rows.length<=els.length/\(g=false->els.length=rows.length)
 |.lz _ _ _ rows,.nil=>rows=[]
 |.lz ty e dp rows,.atp id ver e' len=>lim<=id/\id<nS/\e'=e/\len=rows.length/\iC ty=false/\∃els,L id=some (.arr false ty e ver els)/\Fv C.z dp rows els
 |.mp es,.atp id _ _ _=>lim<=id/\id<nS/\∃es',L id=some (.map es')/\EM es es'
 |.fl fs,.atp id ver e len=>lim<=id/\id<nS/\e=1/\len=fs.length/\∃ty els,L id=some (.arr false ty 1 ver els)/\els.length=fs.length/\∀(i:Nat) (f:PV) (row:aA AV),fs[i]? =some f->els[i]? =some row->LR (RV C) [f] row
 |.loop N e ps a b busy fin,.atp id _ _ _=>lim<=id/\id<nS/\∃st pend tmps,L id=some (.loop st pend tmps ps (kR a) (kR b))/\tmps.length=N/\dT C e tmps/\StR busy fin st pend
 |_,_=>False
def nbO:AO->Bool
 |.arr bx _ _ _ _=> !bx
 |.map _=>true
 |_=>false
structure HR (C:Cx) (h:bC) (L:Nat->Option AO) (lim nS:Nat):Prop where
 ob:∀k po,aO h k=some po->∃pl,C k=some pl/\kT C L lim nS po pl
 inj:∀k k' id v e l v' e' l',aO h k≠none->aO h k'≠none->C k=some (.atp id v e l)->C k'=some (.atp id v' e' l')->k=k'
 zr:∀id o,C.z id=some o->L id=some o/\id<nS/\(∀k v e l,aO h k≠none->C k≠some (.atp id v e l))/\nbO o=true
def Own (C:Cx) (h:bC) (id:Nat):Prop:=∃k v e l,aO h k≠none/\C k=some (.atp id v e l)
def fA:aA gP->aA gP->Prop
 |[],[]=>True
 |.mark::a,.mark::b=>fA a b
 |.ob i _::a,.ob j _::b=>i=j/\fA a b
 |_,_=>False
def Sk (h h':aA gP) (n:Nat):Prop:=∃pY r,h'=pY++r/\fA r h/\∀e∈pY,∃i o,e=.ob i o/\n<=i
theorem fA.refl:∀h,fA h h
 |[]=>trivial
 |.mark::a=>fA.refl a
 |.ob _ _::a=>⟨rfl,fA.refl a⟩
theorem fA.trans:∀{a b c:aA gP},fA a b->fA b c->fA a c
 |[],[],[],_,_=>trivial
 |.mark::a,.mark::b,.mark::c,h,k=>fA.trans (a:=a) h k
 |.ob _ _::a,.ob _ _::b,.ob _ _::c,h,k=>⟨h.1.trans k.1,fA.trans h.2 k.2⟩
theorem fA.upd:∀(h:aA gP) (id:Nat) (o:AO),fA (upd h id o) h
 |[],_,_=>trivial
 |.mark::a,id,o=>fA.upd a id o
 |.ob i o'::a,id,o=>by
  simp only[Sim.upd]
  split
  exact⟨rfl,.refl a⟩
  exact⟨rfl,fA.upd a id o⟩
theorem fA.split:∀{x pY r:aA gP},fA x (pY++r)->∃p q,x=p++q/\fA p pY/\fA q r
 |x,[],r,h=>⟨[],x,rfl,trivial,h⟩
 |.mark::x,.mark::pY,r,h=>by
  obtain⟨p,q,rfl,h1,h2⟩:=fA.split (x:=x) (pY:=pY) (r:=r) h
  exact⟨.mark::p,q,rfl,h1,h2⟩
 |.ob i o::x,.ob j o'::pY,r,h=>by
  obtain⟨p,q,rfl,h1,h2⟩:=fA.split (x:=x) (pY:=pY) (r:=r) h.2
  exact⟨.ob i o::p,q,rfl,⟨h.1,h1⟩,h2⟩
 |[],.mark::_,_,h=>h.elim
 |[],.ob _ _::_,_,h=>h.elim
 |.mark::_,.ob _ _::_,_,h=>h.elim
 |.ob _ _::_,.mark::_,_,h=>h.elim
theorem fA.obs {n:Nat}:∀{p pY:aA gP},fA p pY->(∀e∈pY,∃i o,e=.ob i o/\n<=i)->∀e∈p,∃i o,e=.ob i o/\n<=i
 |[],[],_,_,e,he=>by simp at he
 |.mark::p,.mark::pY,h,hp,e,he=>by simp_all
 |.ob i o::p,.ob j o'::pY,h,hp,e,he=>by
  rcases xF2.1 he with rfl|he
  obtain⟨b,a,k,hk⟩:=hp (.ob j o') (by simp)
  cases k
  exact⟨i,o,rfl,by rw[h.1];exact hk⟩
  exact fA.obs h.2 (fun e he=>hp e (by simp[he])) e he
theorem Sk.refl (h:aA gP) (n:Nat):Sk h h n:=⟨[],h,rfl,.refl h,fun e he=>by simp at he⟩
theorem Sk.trans {a b c:aA gP} {n m:Nat} (h:Sk a b n) (k:Sk b c m) (g:n<=m):Sk a c n:=by
 obtain⟨p,r,rfl,h1,h2⟩:=h;obtain⟨q,r',rfl,f,i⟩:=k;obtain⟨x,y,rfl,d,e2⟩:=f.split;refine⟨q++x,y,by simp,e2.trans h1,fun e he=>?_⟩;rcases xV2.1 he with he|he
 grind
 exact d.obs h2 e he
theorem Sk.upd (h:aA gP) (id:Nat) (o:AO) (n:Nat):Sk h (upd h id o) n:=⟨[],_,rfl,.upd h id o,fun e he=>by simp at he⟩
theorem Sk.new (h:aA gP) (o:AO) (n:Nat):Sk h (.ob n o::h) n:=⟨[.ob n o],h,rfl,.refl h,fun e he=>by simp at he;exact⟨n,o,he,wK2 _⟩⟩
theorem Br {n:Nat}:∀{pY r:aA gP} {id:Nat},(∀e∈pY,∃i o,e=.ob i o/\n<=i)->id<n->Sim.look (pY++r) id=Sim.look r id
 |[],r,id,_,_=>rfl
 |e::pY,r,id,h,hid=>by
  obtain⟨i,o,rfl,hi⟩:=h e (by simp)
  simp only[zV2,Sim.look]
  rw[wN2 (by omega)]
  exact Br (fun e he=>h e (by simp[he])) hid
theorem Sv {n:Nat}:∀{pY r:aA gP},(∀e∈pY,∃i o,e=.ob i o/\n<=i)->∃a,Sim.popMark (pY++.mark::r)=a++r/\∀e∈a,∃i o,e=.ob i o/\n<=i
 |[],r,_=>⟨[],rfl,fun e he=>by simp at he⟩
 |e::pY,r,h=>by
  obtain⟨i,o,rfl,hi⟩:=h e (by simp)
  obtain⟨a,h1,h2⟩:=Sv (r:=r) (fun e he=>h e (yA2 _ he))
  have keep:∃b,gP.ob i o::Sim.popMark (pY++.mark::r)=b++r/\∀e∈b,∃i o,e=.ob i o/\n<=i:=
   ⟨.ob i o::a,by rw[h1];rfl,fun e he=>by
    rcases xF2.1 he with rfl|he
    exact⟨i,o,rfl,hi⟩
    exact h2 e he⟩
  simp only[zV2,Sim.popMark]
  split
  exact⟨a,h1,h2⟩
  exact keep
theorem Sk.pop {h h':aA gP} {n:Nat} (hs:Sk (.mark::h) h' n):Sk h (Sim.popMark h') n/\∀id,id<n->Sim.look (Sim.popMark h') id=Sim.look h' id:=by
 obtain⟨pY,r,rfl,h1,h2⟩:=hs
 match r,h1 with
 |.mark::r,h1=>
  obtain⟨b,d,c⟩:=Sv (r:=r) h2;rw[d];refine⟨⟨b,r,rfl,h1,c⟩,fun id a=>?_⟩;rw[Br c a,Br h2 a];rfl
end Go.P
namespace Go.P
open Go.Sim (AV AO Hp gP upd St IC IX Ex fC CK Wf)
section
variable {R:Type}
theorem Fw (x:Value) (K:Value->aB R):Pt x K=K x:=by cases x<;>rfl
theorem aN1 (x:PV) (K:PV->aB R):fPV x K=K x:=by
 cases x<;>simp[fPV,Fw]
theorem rS:∀(xs:aA PV) (K:aA PV->aB R),uQ xs K=K xs
 |[],K=>rfl
 |x::xs,K=>by simp[uQ,aN1,rS xs]
theorem oJ1:∀(xs:aA PV) (K:aA PV->aB R),fV.fT xs K=K xs
 |[],K=>rfl
 |x::xs,K=>by
  have ih:=fun K=>oJ1 xs (K:aA PV->aB R)
  cases x<;>simp[fV.fT,aN1,rS,ih]
theorem Sw (x:PV) (K:PV->aB R):fV x K=K x:=by
 cases x<;>simp[fV,Fw,rS,oJ1]
theorem bZ {a b:Nat}:Nat.beq a b=decide (a=b):=by
 rw[Bool.eq_iff_iff];simp[Nat.beq_eq]
theorem gQ:∀(e:fH) (i:Nat) (K:PV->aB R),pW e i K=(eW e i).bind K
 |[],_,_=>rfl
 |(j,v)::r,i,K=>by
  simp only[pW,eW,bZ]
  by_cases h:j=i<;>simp[h,gQ r i K]
theorem iN:∀(i:Nat) (a:aA Nat),Eg i a=a.contains i
 |_,[]=>rfl
 |i,j::a=>by
  simp only[Eg,bZ,List.contains_cons,iN i a]
  by_cases h:i=j<;>simp[h]
def edel:fH->aA Nat->fH
 |[],_=>[]
 |(j,v)::r,is=>if j∈is then edel r is else(j,v)::edel r is
theorem eY:∀(e:fH) (is:aA Nat) (K:fH->aB R),jF e is K=K (edel e is)
 |[],_,_=>rfl
 |(j,v)::r,is,K=>by
  simp only[jF,iN,edel]
  by_cases h:j∈is
  simp[h,eY r is K]
  simp[h,eY r is]
theorem wQ:∀(e:fH) (is:aA Nat) (i:Nat),eW (edel e is) i=if i∈is then none else eW e i
 |[],is,i=>by simp[edel,eW]
 |(j,v)::r,is,i=>by
  have ih:=wQ r is i
  simp only[edel]
  by_cases h:j∈is
  rw[wO2 h,ih]
  by_cases h2:j=i
  subst h2;simp[h]
  simp[eW,h2]
  rw[wN2 h]
  by_cases h2:j=i
  subst h2;simp[eW,h]
  simp only[eW,wN2 h2,ih]
def evs (e:fH):aA PX->aB (aA PV)
 |[]=>some []
 |.t i::xs=>(eW e i).bind fun v=>(evs e xs).bind fun vs=>some (v::vs)
 |.c x::xs=>(evs e xs).bind fun vs=>some (x::vs)
theorem jL (e:fH):∀(xs:aA PX) (K:aA PV->aB R),qP e xs K=(evs e xs).bind K
 |[],K=>rfl
 |.t i::xs,K=>by
  simp only[qP,gQ,evs,aJ3]
  congr 1
  funext v
  rw[jL e xs]
  simp[aJ3]
 |.c x::xs,K=>by
  simp only[qP,evs,aJ3]
  rw[jL e xs]
  simp[aJ3]
theorem pD:∀(n:Nat) (l:aA PV) (K:aA PV->aB R) (r:R),qQ n l K=some r->n<=l.length/\K (l.take n)=some r
 |0,l,K,r,h=>⟨xA2 _,by simpa[qQ]using h⟩
 |n+1,[],K,r,h=>by simp[qQ]at h
 |n+1,a::as,K,r,h=>by
  simp only[qQ]at h
  obtain⟨h1,h2⟩:=pD n as _ r h
  exact⟨by simp;omega,by simpa using h2⟩
theorem eP:∀(n:Nat) (l:aA PV) (K:aA PV->aB R) (r:R),iL n l K=some r->n<=l.length/\K (l.drop n)=some r
 |0,l,K,r,h=>⟨xA2 _,by simpa[iL]using h⟩
 |n+1,[],K,r,h=>by simp[iL]at h
 |n+1,a::as,K,r,h=>by
  simp only[iL]at h
  obtain⟨h1,h2⟩:=eP n as _ r h
  exact⟨by simp;omega,by simpa using h2⟩
theorem oF {α:Type} (a:α):∀(cs as:aA α) (n:Nat),Sim.setL (a::as) (n+1) cs=a::Sim.setL as n cs
 |[],as,n=>rfl
 |c::cs,as,n=>by simp only[Sim.setL,List.set_cons_succ];exact oF a cs _ _
theorem jX:∀(l:aA PV) (o:Nat) (cs:aA PV) (K:aA PV->aB R) (r:R),sZ l o cs K=some r->o+cs.length<=l.length/\K (Sim.setL l o cs)=some r
 |l,0,[],K,r,h=>⟨by simp,by simpa[sZ,Sim.setL]using h⟩
 |[],0,c::cs,K,r,h=>by simp[sZ]at h
 |[],n+1,cs,K,r,h=>by simp[sZ]at h
 |a::as,0,c::cs,K,r,h=>by
  simp only[sZ]at h
  obtain⟨h1,h2⟩:=jX as 0 cs _ r h
  refine⟨by simp;omega,?_⟩
  simp only[Sim.setL,List.set_cons_zero]
  rw[oF]
  exact h2
 |a::as,n+1,cs,K,r,h=>by
  simp only[sZ]at h
  obtain⟨h1,h2⟩:=jX as n cs _ r h
  exact⟨by simp;omega,by rw[oF];exact h2⟩
theorem fS:∀(h:bC) (k:Nat) (K:fQ->aB R),hK h k K=(aO h k).bind K
 |[],_,_=>rfl
 |(j,v)::r,i,K=>by
  simp only[hK,aO,bZ]
  by_cases h:j=i<;>simp[h,fS r i K]
def fR:bC->Nat->fQ->bC
 |[],_,_=>[]
 |(j,v)::r,i,o=>if j=i then(j,o)::r else(j,v)::fR r i o
theorem eQ:∀(h:bC) (k:Nat) (o:fQ) (K:bC->aB R) (r:R),iM h k o K=some r->K (fR h k o)=some r
 |[],_,_,_,_,h=>by simp[iM]at h
 |(j,v)::t,i,o,K,r,h=>by
  simp only[iM,bZ]at h
  by_cases e:j=i
  simp only[e,yO2,wZ2]at h
  simp only[fR,e,xM2];exact h
  simp only[e,yZ2,xO2]at h
  simp only[fR,wN2 e]
  exact eQ t i o _ r h
theorem gU:∀(h:bC) (k:Nat) (o:fQ) (j:Nat),aO (fR h k o) j=if j=k/\(aO h k).isSome then some o else aO h j
 |[],k,o,j=>by simp[fR,aO]
 |(i,v)::r,k,o,j=>by
  have ih:=gU r k o j
  by_cases h1:i=k
  subst h1
  simp only[fR,xM2,aO]
  by_cases h2:i=j
  subst h2;simp
  grind
  simp only[fR,wN2 h1,aO]
  by_cases h2:i=j
  subst h2;simp[h1]
  grind
def fB:PV->aB (aA PV)
 |.agg cs=>some cs
 |.tup _=>none
 |.undef=>none
 |x=>some [x]
theorem mF (x:PV) (K:aA PV->aB R):nR x K=(fB x).bind K:=by cases x<;>rfl
theorem qX {C:Cx} {x:PV} {y:AV} {cs:aA PV} (h:RV C x y) (hc:fB x=some cs):∃cs',y.cells=some cs'/\LR (RV C) cs cs':=by
 have one:∀{z:PV} {w:AV},RV C z w->(∀l,w≠.agg l)->(∀l,w≠.tup l)->cs=[z]->∃cs',w.cells=some cs'/\LR (RV C) cs cs':=by
  intro z w f h1 h2 e;subst e;refine⟨[w],?_,.cons f .nil⟩;cases w<;>simp_all[AV.cells]
 cases h with
 |cl h=>
  cases h with
  |agg hl hc'=>simp[fB]at hc;subst hc;exact⟨_,rfl,hl,fun j x y a b=>.cl (hc' j x y a b)⟩
  |tup hl hc'=>simp[fB]at hc
  |v x=>exact one (.cl (.v x)) (by intro l e;cases e) (by intro l e;cases e) (by simpa[fB]using hc.symm)
  |is a b c=>exact one (.cl (.is a b c)) (by intro l e;cases e) (by intro l e;cases e) (by simpa[fB]using hc.symm)
  |isn=>exact one (.cl .isn) (by intro l e;cases e) (by intro l e;cases e) (by simpa[fB]using hc.symm)
  |ip a b=>exact one (.cl (.ip a b)) (by intro l e;cases e) (by intro l e;cases e) (by simpa[fB]using hc.symm)
  |im a b c=>exact one (.cl (.im a b c)) (by intro l e;cases e) (by intro l e;cases e) (by simpa[fB]using hc.symm)
  |fn a b c d=>exact one (.cl (.fn a b c d)) (by intro l e;cases e) (by intro l e;cases e) (by simpa[fB]using hc.symm)
 |undef=>simp[fB]at hc
 |agg hl hc'=>simp[fB]at hc;subst hc;exact⟨_,rfl,hl,hc'⟩
 |tup hl hc'=>simp[fB]at hc
 |ref h=>exact one (.ref h) (by intro l e;cases e) (by intro l e;cases e) (by simpa[fB]using hc.symm)
 |own h=>exact one (.own h) (by intro l e;cases e) (by intro l e;cases e) (by simpa[fB]using hc.symm)
 |ownn h hy=>subst hy;exact one (.ownn h rfl) (by intro l e;cases e) (by intro l e;cases e) (by simpa[fB]using hc.symm)
 |el h=>exact one (.el h) (by intro l e;cases e) (by intro l e;cases e) (by simpa[fB]using hc.symm)
 |map h=>exact one (.map h) (by intro l e;cases e) (by intro l e;cases e) (by simpa[fB]using hc.symm)
 |yld h=>exact one (.yld h) (by intro l e;cases e) (by intro l e;cases e) (by simpa[fB]using hc.symm)
 |fn a b c d=>exact one (.fn a b c d) (by intro l e;cases e) (by intro l e;cases e) (by simpa[fB]using hc.symm)
 |@zs d e rows y h=>
  refine one (.zs h) ?_ ?_ (by simpa[fB]using hc.symm);intro l e;subst e;cases d with
  |zero=>cases h
  |succ d=>rcases h with h|⟨_,_,_,_,_,_,_,h,_⟩<;>cases h
  intro l e;subst e;cases d with
  |zero=>cases h
  |succ d=>rcases h with h|⟨_,_,_,_,_,_,_,h,_⟩<;>cases h
 |zm h he=>exact one (.zm h he) (by intro l e;cases e) (by intro l e;cases e) (by simpa[fB]using hc.symm)
 |zm0=>exact one .zm0 (by intro l e;cases e) (by intro l e;cases e) (by simpa[fB]using hc.symm)
theorem Sx (a b:IntKind):kEq a b=decide (a=b):=by cases a<;>cases b<;>rfl
theorem LR.zero {C:Cx} (zero:aA Value):LR (RV C) (zero.map .v) (Sim.zeroRow zero):=by
 unfold Sim.zeroRow
 induction zero with
 |nil=>exact .nil
 |cons a as ih=>exact .cons (.cl (.v a)) ih
theorem LR.zeroP (zero:aA Value):LR (RC true) (zero.map .v) (Sim.zeroRow zero):=by
 unfold Sim.zeroRow
 induction zero with
 |nil=>exact .nil
 |cons a as ih=>exact .cons (.v a) ih
theorem RV.plain {C:Cx} {x:PV} {y:AV} (h:RV C x y) (hp:gC x=true):RC true x y:=by
 cases h with
 |cl h=>exact h.plain hp
 |_=>simp[gC]at hp
theorem LR.plain {C:Cx} {xs:aA PV} {ys:aA AV} (h:LR (RV C) xs ys) (hp:xs.all gC=true):LR (RC true) xs ys:=
 ⟨h.1,fun j x y a b=>(h.2 j x y a b).plain (wR2.1 hp x (wT2 a))⟩
theorem vA (e:Nat):∀(xs:aA PV) (K:aA (aA PV)->aB R) (r:R),uU e xs K=some r->∃rows,K rows=some r/\rows.length=xs.length/\
  ∀(i:Nat) (x:PV),xs[i]? =some x->∃cs,fB x=some cs/\cs.length=e/\cs.all gC=true/\rows[i]? =some cs
 |[],K,r,h=>⟨[],h,rfl,fun i x b=>by simp at b⟩
 |x::xs,K,r,h=>by
  simp only[uU,mF,wH2]at h
  obtain⟨cs,a,h⟩:=h
  by_cases hc:(Nat.beq cs.length e&&cs.all gC)=true
  rw[hc,wZ2]at h
  simp only[wL2,bZ,wS2]at hc
  obtain⟨rows,h1,h2,h3⟩:=vA e xs _ r h
  refine⟨cs::rows,h1,by simp[h2],fun i y hy=>?_⟩
  cases i with
  |zero=>simp at hy;subst hy;exact⟨cs,a,hc.1,hc.2,rfl⟩
  |succ i=>simp at hy;obtain⟨c,d,f,g,j⟩:=h3 i y hy;exact⟨c,d,f,g,by simpa using j⟩
  grind
theorem Fx:∀(i:Nat) (a:aA Nat),Vt i a=true->a=List.range' i a.length
 |_,[],_=>rfl
 |i,j::a,h=>by
  simp only[Vt,bZ]at h
  by_cases e:i=j
  simp only[e,yO2,wZ2]at h
  subst e
  rw[xR2,List.range'_succ]
  congr 1
  exact Fx _ a h
  simp[e]at h
end
end Go.P
namespace Go.P
open Go.Sim (AV AO Hp gP upd St IC IX Ex fC CK Wf Out doOp)
structure cY (C:Cx) (n:Nat) (h:bC) (lim:Nat) (s:Hp):Prop where
 hr:HR C h (Sim.look s.h) lim s.n
 dom:∀k pl,C k=some pl->k<n
 wf:Wf s.h s.n
 lim:lim<=s.n
def gB:fQ->Bool
 |.lst ty _ _ _=>iC ty
 |.lz .. =>false
 |_=>true
structure Fr (C:Cx) (h:bC) (s:Hp) (C':Cx) (h':bC) (s':Hp):Prop where
 sk:Sk s.h s'.h s.n
 n:s.n<=s'.n
 keep:∀id,id<s.n->¬Own C h id->Sim.look s'.h id=Sim.look s.h id
 own:∀id,id<s.n->Own C' h' id->Own C h id
 kd:∀k o,aO h k=some o->∃o',aO h' k=some o'/\(gB o'=true->gB o=true/\C' k=C k)
 zl:∀id o,C.z id=some o->C'.z id=some o
 zn:∀id,id<s.n->C'.z id≠none->C.z id≠none\/Own C h id
theorem Fr.refl (C:Cx) (h:bC) (s:Hp):Fr C h s C h s:=⟨.refl _ _,wK2 _,fun _ _ _=>rfl,fun _ _ h=>h,fun k o h=>⟨o,h,fun hb=>⟨hb,rfl⟩⟩,fun _ _ h=>h,fun _ _ h=>.inl h⟩
theorem Fr.trans {C C' C'':Cx} {h h' d:bC} {s s' e:Hp} (a:Fr C h s C' h' s') (b:Fr C' h' s' C'' d e):Fr C h s C'' d e:=
  ⟨a.sk.trans b.sk a.n,xJ2 a.n b.n,fun id c i=>by
    rw[b.keep id (yU2 c a.n) (fun f=>i (a.own id c f)),a.keep id c i],
   fun id c f=>a.own id c (b.own id (yU2 c a.n) f),
   fun k o hk=>by
    obtain⟨o',h1,h2⟩:=a.kd k o hk
    obtain⟨g,h3,h4⟩:=b.kd k o' h1
    exact⟨g,h3,fun hb=>⟨(h2 (h4 hb).1).1,(h4 hb).2.trans (h2 (h4 hb).1).2⟩⟩,
   fun id o h=>b.zl id o (a.zl id o h),
   fun id c h=>by
    rcases b.zn id (yU2 c a.n) h with h1|h1
    exact a.zn id c h1
    exact .inr (a.own id c h1)⟩
def fI {R:Type} (C:Cx) (n:Nat) (h:bC) (lim:Nat) (s:Hp) (k:fC) (ys:aA AV) (K:PV->bC->Nat->aB R) (r:R):Prop:=
 ∃v h' n' C' out,K v h' n'=some r/\doOp (Sim.look s.h) lim s.n k ys=some out/\RV C' v out.v/\cY C' n' h' lim (out.apply s)/\
  C.le C'/\n<=n'/\Fr C h s C' h' (out.apply s)/\(Lp k=false->∀id,id<s.n->Sim.look (out.apply s).h id=Sim.look s.h id)
section
variable {R:Type} {C:Cx} {n:Nat} {h:bC} {lim:Nat} {s:Hp} {k:fC} {ys:List AV} {K:PV->bC->Nat->Option R} {r:R}
theorem bX (a:cY C n h lim s) {v:PV} {y:AV} (hd:doOp (Sim.look s.h) lim s.n k ys=some {v:=y}) (hv:RV C v y) (hK:K v h n=some r):fI C n h lim s k ys K r:=
 ⟨v,h,n,C,_,hK,hd,hv,a,.refl C,wK2 _,.refl _ _ _,fun _ _ _=>rfl⟩
theorem eZ {h:aA gP} {n:Nat} {o:AO} {id:Nat}:Sim.look (.ob n o::h) id=if n=id then some o else Sim.look h id:=rfl
def ext (C:Cx) (n:Nat) (pl:Pl):Cx:=⟨fun k=>if k=n then some pl else C k,C.z⟩
theorem lL (a:cY C n h lim s) (pl:Pl):C.le (ext C n pl):=⟨fun k q hk=>by
 have:=a.dom k q hk
 simp only[ext]
 rw[wN2 (by omega)]
 exact hk,fun _ _ h=>h⟩
theorem kT.mono {C':Cx} {L L':Nat->aB AO} {nS j:Nat} {po:fQ} {pl:Pl} (m:nS<=j) (k:C.le C') (h:∀id ver e len,pl=.atp id ver e len->L' id=L id) (c:kT C L lim nS po pl):kT C' L' lim j po pl:=by
 cases po with
 |box cells=>
  cases pl with
  |nil=>exact c
  |atp id ver e len=>
   obtain⟨h1,h2,ty,esz,row,h3,h4⟩:=c;exact⟨h1,by omega,ty,esz,row,by rw[h id ver e len rfl];exact h3,h4.mono (fun x y hv=>hv.mono k)⟩
 |lst ty e g rows=>
  cases pl with
  |nil=>exact c
  |atp id ver e' len=>
   obtain⟨h1,h2,h3,h4,els,h5,d⟩:=c;exact⟨h1,by omega,h3,h4,els,by rw[h id ver e' len rfl];exact h5,d⟩
 |lz ty e dp rows=>
  cases pl with
  |nil=>exact c
  |atp id ver e' len=>
   obtain⟨h1,h2,h3,h4,hf,els,h5,d⟩:=c;exact⟨h1,by omega,h3,h4,hf,els,by rw[h id ver e' len rfl];exact h5,d.mono k.2⟩
 |mp es=>
  cases pl with
  |nil=>exact c
  |atp id ver e len=>
   obtain⟨h1,h2,es',h3,h4⟩:=c;exact⟨h1,by omega,es',by rw[h id ver e len rfl];exact h3,h4⟩
 |fl fs=>
  cases pl with
  |nil=>exact c
  |atp id ver e len=>
   obtain⟨h1,h2,h3,h4,ty,els,h5,d,l⟩:=c;exact⟨h1,by omega,h3,h4,ty,els,by rw[h id ver e len rfl];exact h5,d,fun i f row a b=>(l i f row a b).mono (fun x y hv=>hv.mono k)⟩
 |loop N e ps a b busy fin=>
  cases pl with
  |nil=>exact c
  |atp id ver e' len=>
   obtain⟨h1,h2,st,pend,tmps,h3,h4,h5,d⟩:=c;exact⟨h1,by omega,st,pend,tmps,by rw[h id ver e' len rfl];exact h3,h4,fun i v hv=>(h5 i v hv).imp fun y hy=>⟨hy.1,hy.2.mono k⟩,d⟩
theorem kT.lt {L:Nat->aB AO} {nS id ver e len:Nat} {po:fQ} (c:kT C L lim nS po (.atp id ver e len)):lim<=id/\id<nS:=by
 cases po with
 |box cells=>exact⟨c.1,c.2.1⟩
 |lst ty e g rows=>exact⟨c.1,c.2.1⟩
 |lz ty e dp rows=>exact⟨c.1,c.2.1⟩
 |mp es=>exact⟨c.1,c.2.1⟩
 |fl fs=>exact⟨c.1,c.2.1⟩
 |loop N e ps a b busy fin=>exact⟨c.1,c.2.1⟩
theorem HR.lt {L:Nat->aB AO} {nS:Nat} (H:HR C h L lim nS) {k id ver e len:Nat} (hk:aO h k≠none) (a:C k=some (.atp id ver e len)):lim<=id/\id<nS:=by
 cases ho:aO h k with
 |none=>exact absurd ho hk
 |some po=>
  obtain⟨pl,h1,h2⟩:=H.ob k po ho;rw[a]at h1;cases h1;exact h2.lt
theorem aO1 (a:cY C n h lim s) {k:Nat} (hk:n<=k):C k=none:=by
 cases hc:C k with
 |none=>rfl
 |some pl=>have:=a.dom k pl hc;omega
theorem wR (a:cY C n h lim s) {k:Nat} (hk:n<=k):aO h k=none:=by
 cases hc:aO h k with
 |none=>rfl
 |some po=>
  obtain⟨pl,h1,_⟩:=a.hr.ob k po hc;have:=a.dom k pl h1;omega
theorem oK1 (b:cY C n h lim s) {po:fQ} {pl:Pl}:∀k o,aO h k=some o->∃o',aO ((n,po)::h) k=some o'/\(gB o'=true->gB o=true/\ext C n pl k=C k):=fun k o hk=>by
 have a:n≠k:=fun e=>by rw[wR b (by omega)]at hk;cases hk
 exact⟨o,by simp[aO,a,hk],fun hb=>⟨hb,by simp[ext,Ne.symm a]⟩⟩
theorem qY (g:cY C n h lim s) {po:fQ} {ao:AO} {ver e len:Nat} (x:kT (ext C n (.atp s.n ver e len)) (Sim.look (.ob s.n ao::s.h)) lim (s.n+1) po (.atp s.n ver e len)):
  cY (ext C n (.atp s.n ver e len)) (n+1) ((n,po)::h) lim {h:=.ob s.n ao::s.h,n:=s.n+1}/\Fr C h s (ext C n (.atp s.n ver e len)) ((n,po)::h) {h:=.ob s.n ao::s.h,n:=s.n+1}/\
  ∀id,id<s.n->Sim.look (.ob s.n ao::s.h) id=Sim.look s.h id:=by
 have p:=lL g (.atp s.n ver e len)
 have c:∀id,id<s.n->Sim.look (.ob s.n ao::s.h) id=Sim.look s.h id:=fun id i=>by
  rw[eZ,wN2 (by omega)]
 have f:∀k,aO ((n,po)::h) k≠none->k≠n->aO h k≠none:=fun k hk j=>by
  simpa[aO,Ne.symm j]using hk
 have d:∀k q,k≠n->ext C n (.atp s.n ver e len) k=some q->C k=some q:=fun k q j hk=>by
  simpa[ext,j]using hk
 refine⟨⟨⟨fun k o hk=>?_,fun k k' id v1 m w v2 e2 z h1 h2 h3 h4=>?_,fun id o y=>?_⟩,fun k pl hk=>?_,⟨by simp,g.wf⟩,by have:=g.lim;show lim<=s.n+1;omega⟩,⟨.new _ _ _,by simp,fun id i _=>c id i,fun id i t=>?_,oK1 g,fun _ _ h=>h,fun _ _ h=>.inl h⟩,c⟩;simp only[aO]at hk;split at hk;rename_i m;subst m;cases hk;exact⟨_,by simp[ext],x⟩;obtain⟨pl,u,r⟩:=g.hr.ob k o hk;refine⟨pl,p.1 _ _ u,r.mono (by simp) p (fun id ver e len hp=>?_)⟩;subst hp;exact c id r.lt.2;by_cases a:k=n;by_cases b:k'=n;rw[a,b];exfalso;subst a;simp[ext]at h3;have:=(g.hr.lt (f k' h2 b) (d k' _ b h4)).2;omega;by_cases b:k'=n;exfalso;subst b;simp[ext]at h4;have:=(g.hr.lt (f k h1 a) (d k _ a h3)).2;omega;exact g.hr.inj k k' id v1 m w v2 e2 z (f k h1 a) (f k' h2 b) (d k _ a h3) (d k' _ b h4);obtain⟨z1,z2,z3,z4⟩:=g.hr.zr id o y;refine⟨(c id z2).trans z1,Nat.lt_succ_of_lt z2,fun k v e' l h1 h2=>?_,z4⟩;by_cases a:k=n;subst a;simp[ext]at h2;omega
 grind
 by_cases a:k=n;omega;have:=g.dom k pl (d k pl a hk);omega;obtain⟨k,v1,m,w,u,r⟩:=t;by_cases a:k=n;subst a;simp[ext]at r;omega;exact⟨k,v1,m,w,f k u a,d k _ a r⟩
theorem Vy (C:Cx) (L:Nat->aB AO) (lim nS ty e:Nat) (g:Bool):kT C L lim nS (oE ty e g) .nil:=by
 unfold oE;cases Nat.ble 4294967296 e<;>rfl
theorem Py (d:cY C n h lim s) {ty e:Nat} {g:Bool}:cY (ext C n .nil) (n+1) ((n,oE ty e g)::h) lim s/\Fr C h s (ext C n .nil) ((n,oE ty e g)::h) s:=by
 have m:=lL d .nil
 have f:∀k,aO ((n,oE ty e g)::h) k≠none->k≠n->aO h k≠none:=fun k hk i=>by
  simpa[aO,Ne.symm i]using hk
 have c:∀k q,k≠n->ext C n .nil k=some q->C k=some q:=fun k q i hk=>by
  simpa[ext,i]using hk
 refine⟨⟨⟨fun k o hk=>?_,fun k k' id v1 j w v2 e2 y h1 h2 h3 h4=>?_,fun id o x=>?_⟩,fun k pl hk=>?_,d.wf,d.lim⟩,⟨.refl _ _,wK2 _,fun id r _=>rfl,fun id r t=>?_,oK1 d,fun _ _ h=>h,fun _ _ h=>.inl h⟩⟩;simp only[aO]at hk;split at hk;rename_i j;subst j;cases hk;exact⟨.nil,by simp[ext],Vy ..⟩;obtain⟨pl,u,p⟩:=d.hr.ob k o hk;exact⟨pl,m.1 _ _ u,p.mono (wK2 _) m (fun _ _ _ _ _=>rfl)⟩;by_cases a:k=n;subst a;simp[ext]at h3;by_cases b:k'=n;subst b;simp[ext]at h4;exact d.hr.inj k k' id v1 j w v2 e2 y (f k h1 a) (f k' h2 b) (c k _ a h3) (c k' _ b h4);obtain⟨z1,z2,z3,z4⟩:=d.hr.zr id o x;refine⟨z1,z2,fun k v e' l h1 h2=>?_,z4⟩;by_cases a:k=n;subst a;simp[ext]at h2
 grind
 by_cases a:k=n;omega;have:=d.dom k pl (c k pl a hk);omega;obtain⟨k,v1,j,w,u,p⟩:=t;by_cases a:k=n;subst a;simp[ext]at p;exact⟨k,v1,j,w,f k u a,c k _ a p⟩
theorem tE (f:cY C n h lim s) {k id ver e len:Nat} {po po':fQ} {ao:AO} (hk:aO h k=some po) (q:C k=some (.atp id ver e len))
  (z:kT C (Sim.look (upd s.h id ao)) lim s.n po' (.atp id ver e len)) (hb:gB po'=gB po):
  cY C n (fR h k po') lim {h:=upd s.h id ao,n:=s.n}/\Fr C h s C (fR h k po') {h:=upd s.h id ao,n:=s.n}:=by
 have g:∀j,aO (fR h k po') j=if j=k then some po' else aO h j:=fun j=>by
  rw[gU];simp[hk]
 have c:∀j,aO (fR h k po') j≠none->aO h j≠none:=fun j d=>by grind
 have a:∀j,j≠id->Sim.look (upd s.h id ao) j=Sim.look s.h j:=fun j d=>by
  rw[Sim.look_upd];simp[d]
 refine⟨⟨⟨fun j o d=>?_,fun j w i v1 b m v2 e2 y h1 h2 h3 h4=>f.hr.inj j w i v1 b m v2 e2 y (c j h1) (c w h2) h3 h4,fun i o x=>?_⟩,f.dom,f.wf.upd _ _,f.lim⟩,⟨.upd _ _ _ _,wK2 _,fun i hi t=>a i (fun b=>t ?_),fun i hi t=>?_,fun j o d=>?_,fun _ _ h=>h,fun _ _ h=>.inl h⟩⟩;rw[g]at d;split at d
 grind
 rename_i r;obtain⟨pl,p,u⟩:=f.hr.ob j o d;refine⟨pl,p,u.mono (wK2 _) (.refl C) (fun i v1 b m hp=>a i (fun e2=>r ?_))⟩;subst hp;subst e2;exact f.hr.inj j k i v1 b m ver e len (by rw[d];simp) (by rw[hk];simp) p q;obtain⟨z1,z2,z3,z4⟩:=f.hr.zr i o x;refine⟨(a i (fun b=>?_)).trans z1,z2,fun j v e' l h1 h2=>z3 j v e' l (c j h1) h2,z4⟩;subst b;exact z3 k ver e len (by rw[hk];simp) q;subst b;exact⟨k,ver,e,len,by rw[hk];simp,q⟩;obtain⟨j,v1,b,m,p,u⟩:=t;exact⟨j,v1,b,m,c j p,u⟩
 grind
end
end Go.P
namespace Go.P
open Go.Sim (AV AO Hp gP upd St IC IX Ex fC CK Wf Out doOp)
section
variable {C:Cx} {y:AV}
theorem gG {x:Value} (h:RV C (.v x) y):y=.v x:=by cases h with|cl h=>cases h;rfl
theorem nT {cs:aA PV} (h:RV C (.agg cs) y):∃cs',y=.agg cs'/\LR (RV C) cs cs':=by
 cases h with
 |cl h=>cases h with|agg a b=>exact⟨_,rfl,a,fun j x y p q=>.cl (b j x y p q)⟩
 |agg a b=>exact⟨_,rfl,a,b⟩
theorem Pz {cs:aA PV} (h:RV C (.tup cs) y):∃cs',y=.tup cs'/\LR (RV C) cs cs':=by
 cases h with
 |cl h=>cases h with|tup a b=>exact⟨_,rfl,a,fun j x y p q=>.cl (b j x y p q)⟩
 |tup a b=>exact⟨_,rfl,a,b⟩
theorem Fy {cs:aA PV} (h:RV C (.ip cs) y):∃cs',y=.ip cs'/\LR (RC false) cs cs':=by
 cases h with
 |cl h=>cases h with|ip a b=>exact⟨_,rfl,a,b⟩
theorem Sy {e:Nat} {rows:aA (aA PV)} (h:RV C (.is e rows) y):(∃rows',y=.is e rows'/\RR rows rows')\/(rows=[]/\(y=.v (.slice none 0 0)\/y=.es)):=by
 cases h with
 |cl h=>cases h with
  |is a b c=>exact .inl ⟨_,rfl,.of_is a b c⟩
  |isn=>exact .inr ⟨rfl,.inl rfl⟩
theorem oL1 {es:aA (PV×PV)} (h:RV C (.im es) y):∃es',y=.im es'/\ER es es':=by
 cases h with
 |cl h=>cases h with|im a b c=>exact⟨_,rfl,a,fun j x y p q=>⟨b j x y p q,c j x y p q⟩⟩
theorem lM {k o:Nat} (h:RV C (.ref k o) y):∃id ver e len,C k=some (.atp id ver e len)/\y=.ptr id ver 0 o:=by
 cases h with
 |cl h=>cases h
 |ref h=>exact⟨_,_,_,_,h,rfl⟩
theorem jP {k:Nat} (h:RV C (.own k) y):(∃id ver e len,C k=some (.atp id ver e len)/\y=.sl e id ver 0 len none)\/(C k=some .nil/\(y=.v (.slice none 0 0)\/y=.es)):=by
 cases h with
 |cl h=>cases h
 |own h=>exact .inl ⟨_,_,_,_,h,rfl⟩
 |ownn h hy=>exact .inr ⟨h,.inl hy⟩
theorem Bs {e:Nat} {rows:aA (aA PV)} (h:RV C (.is e rows) y):(∃rows',y=.is e rows'/\RR rows rows')\/(rows=[]/\y=.v (.slice none 0 0)):=by
 cases h with
 |cl h=>cases h with
  |is a b c=>exact .inl ⟨_,rfl,.of_is a b c⟩
  |isn=>exact .inr ⟨rfl,rfl⟩
theorem nG {k:Nat} (h:RV C (.own k) y):(∃id ver e len,C k=some (.atp id ver e len)/\y=.sl e id ver 0 len none)\/(C k=some .nil/\y=.v (.slice none 0 0)):=by
 cases h with
 |cl h=>cases h
 |own h=>exact .inl ⟨_,_,_,_,h,rfl⟩
 |ownn h hy=>exact .inr ⟨h,hy⟩
theorem Bt {k i o:Nat} (h:RV C (.el k i o) y):∃id ver e len,C k=some (.atp id ver e len)/\y=.ptr id ver i o:=by
 cases h with
 |cl h=>cases h
 |el h=>exact⟨_,_,_,_,h,rfl⟩
theorem wS {k:Nat} (h:RV C (.map k) y):∃id ver e len,C k=some (.atp id ver e len)/\y=.map id:=by
 cases h with
 |cl h=>cases h
 |map h=>exact⟨_,_,_,_,h,rfl⟩
theorem Hy {k:Nat} (h:RV C (.yld k) y):∃id ver e len,C k=some (.atp id ver e len)/\y=.fn (.yield id) [] []:=by
 cases h with
 |cl h=>cases h
 |yld h=>exact⟨_,_,_,_,h,rfl⟩
theorem yI {f:FuncId} {a b:aA PV} (h:RV C (.fn f a b) y):∃a' b',y=.fn (.func f) a' b'/\LR (RV C) a a'/\LR (RV C) b b':=by
 cases h with
 |cl h=>cases h with|fn p q r s=>exact⟨_,_,rfl,⟨p,fun j x y h1 h2=>.cl (r j x y h1 h2)⟩,⟨q,fun j x y h1 h2=>.cl (s j x y h1 h2)⟩⟩
 |fn p q r s=>exact⟨_,_,rfl,⟨p,r⟩,⟨q,s⟩⟩
theorem LR.closed {xs:aA PV} {ys:aA AV} {p:Bool} (h:LR (RC p) xs ys):LR (RV C) xs ys:=h.mono fun _ _ h=>.cl h.weak
theorem wT {α:Type} {l:aA α} {o:Nat} {c:α} {t:aA α} (h:l.drop o=c::t):l[o]? =some c:=by
 have:=congrArg (fun l=>l[0]?) h;simpa[yG2]using this
end
section
variable {R:Type} {C:Cx} {n:Nat} {h:bC} {lim:Nat} {s:Hp} {k:fC} {xs:List PV} {ys:List AV} {K:PV->bC->Nat->Option R} {r:R}
theorem nU (C:Cx) (n:Nat) (pl:Pl):ext C n pl n=some pl:=wO2 rfl
theorem aE {A:Type} {a:A} {P:Prop} (h:(none:aB A)=some a):P:=by cases h
theorem rF1 (a:cY C n h lim s) (b:LR (RV C) xs ys) (hk:eC .mov xs h n K=some r):fI C n h lim s .mov ys K r:=by
 rcases xs with _|⟨x,_|⟨x2,t⟩⟩
 exact aE hk;have hk:K x h n=some r:=hk;obtain⟨y,_,rfl,h1,h2⟩:=b.inv_cons;rw[h2.inv_nil];exact bX a rfl h1 hk;exact aE hk
theorem hR1 (c:cY C n h lim s) (d:LR (RV C) xs ys) (hk:eC .nilc xs h n K=some r):fI C n h lim s .nilc ys K r:=by
 rcases xs with _|⟨x,_|⟨x2,t⟩⟩
 exact aE hk;obtain⟨y,_,rfl,h1,h2⟩:=d.inv_cons;rw[h2.inv_nil];cases x with
 |ref k o=>obtain⟨id,ver,e,len,hc,rfl⟩:=lM h1;exact bX c rfl h1 hk
 |ip cs=>obtain⟨cs',rfl,_⟩:=Fy h1;exact bX c rfl h1 hk
 |el k i o=>obtain⟨id,ver,e,len,hc,rfl⟩:=Bt h1;exact bX c rfl h1 hk
 |fn f a b=>obtain⟨a',b',rfl,_⟩:=yI h1;exact bX c rfl h1 hk
 |yld k=>obtain⟨id,ver,e,len,hc,rfl⟩:=Hy h1;exact bX c rfl h1 hk
 |_=>exact aE hk
 exact aE hk
theorem rG1 {ty:TypeId} {size:Nat} (b:cY C n h lim s) (f:LR (RV C) xs ys) (hk:eC (.box ty size) xs h n K=some r):fI C n h lim s (.box ty size) ys K r:=by
 rcases xs with _|⟨x,_|⟨x2,t⟩⟩
 exact aE hk;have hk:nR x (fun cs=>bif Nat.beq cs.length size then(bif Nat.beq size 0 then none else K (.ref n 0) ((n,.box cs)::h) (n+1))else none)=some r:=hk;obtain⟨y,_,rfl,h1,h2⟩:=f.inv_cons;rw[h2.inv_nil];rw[mF,wH2]at hk;obtain⟨cs,c,hk⟩:=hk;obtain⟨cs',hc',hl⟩:=qX h1 c;rw[bZ]at hk;by_cases d:cs.length=size;rw[xX2 d,wZ2,bZ]at hk;by_cases e2:size=0
 grind
 rw[yC2 e2,xO2]at hk;have a:=lL b (.atp s.n 0 size 1);obtain⟨g,i,j⟩:=qY b (po:=.box cs) (ao:=.arr true ty size 0 [cs']) (ver:=0) (e:=size) (len:=1) ⟨b.lim,by omega,ty,size,cs',by rw[eZ,wO2 rfl],hl.mono (fun _ _ h=>h.mono a)⟩;refine⟨_,_,_,_,{v:=.ptr s.n 0 0 0,new:=some (.arr true ty size 0 [cs'])},hk,?_,.ref (nU C n _),g,a,by omega,i,fun _=>j⟩;simp only[doOp,hc'];rw[wO2 ⟨by rw[<-hl.1];exact d,e2⟩]
 grind
 exact aE hk
theorem aP1 {ty:TypeId} {zero:aA Value} (a:cY C n h lim s) (c:LR (RV C) xs ys) (hk:eC (.alloc ty zero) xs h n K=some r):fI C n h lim s (.alloc ty zero) ys K r:=by
 rcases xs with _|⟨x,t⟩
 have hk:uQ (zero.map .v) (fun cs=>K (.ref n 0) ((n,.box cs)::h) (n+1))=some r:=hk;rw[rS]at hk;rw[c.inv_nil];have b:=lL a (.atp s.n 0 zero.length 1);obtain⟨d,f,g⟩:=qY a (po:=.box (zero.map .v)) (ao:=.arr true ty zero.length 0 [Sim.zeroRow zero]) (ver:=0) (e:=zero.length) (len:=1) ⟨a.lim,by omega,ty,zero.length,Sim.zeroRow zero,by rw[eZ,wO2 rfl],LR.zero zero⟩;exact⟨_,_,_,_,{v:=.ptr s.n 0 0 0,new:=some (.arr true ty zero.length 0 [Sim.zeroRow zero])},hk,rfl,.ref (nU C n _),d,b,by omega,f,fun _=>g⟩;exact aE hk
theorem Bu:∀(cells:aA PV) (parts:aA (Nat×Nat)) (xs:aA PV) (K:aA PV->aB R) (r:R) (a ys:aA AV),Ll cells parts xs K=some r->LR (RV C) cells a->LR (RV C) xs ys->
  ∃cs cs',K cs=some r/\Sim.fillParts a parts ys=some cs'/\LR (RV C) cs cs'
 |cells,[],[],K,r,a,ys,h,hl,hx=>by
  rw[hx.inv_nil]
  exact⟨cells,a,h,rfl,hl⟩
 |cells,(off,m)::ps,x::xs,K,r,a,ys,h,hl,hx=>by
  obtain⟨y,d,rfl,h1,h2⟩:=hx.inv_cons
  simp only[Ll,mF,wH2]at h
  obtain⟨cs,c,h⟩:=h
  obtain⟨cs',hc',b⟩:=qX h1 c
  rw[bZ]at h
  by_cases e:cs.length=m
  rw[xX2 e,wZ2]at h
  obtain⟨i,f⟩:=jX _ _ _ _ _ h
  obtain⟨q,g,q1,q2,q3⟩:=Bu _ ps xs K r _ d f (hl.setL b off) h2
  refine⟨q,g,q1,?_,q3⟩
  simp only[Sim.fillParts,hc']
  rw[wO2 ⟨by rw[<-b.1];exact e,by rw[<-hl.1];omega⟩]
  exact q2
  grind
 |cells,[],_::_,K,r,a,ys,h,hl,hx=>aE h
 |cells,_::_,[],K,r,a,ys,h,hl,hx=>aE h
theorem aQ1 {zero:aA Value} {parts:aA (Nat×Nat)} (e:cY C n h lim s) (f:LR (RV C) xs ys) (hk:eC (.build zero parts) xs h n K=some r):fI C n h lim s (.build zero parts) ys K r:=by
 have hk:uQ (zero.map .v) (fun cs=>Ll cs parts xs fun cs=>K (.agg cs) h n)=some r:=by
  rcases xs with _|⟨a,_|⟨b,_|⟨c,t⟩⟩⟩<;>exact hk
 rw[rS]at hk;obtain⟨cs,cs',g,i,d⟩:=Bu _ _ _ _ _ _ _ hk (LR.zero (C:=C) zero) f;refine bX e ?_ (.agg d.1 d.2) g;rcases ys with _|⟨a,_|⟨b,_|⟨c,t⟩⟩⟩<;>simp[doOp,i]
theorem tF (f:cY C n h lim s) {k id ver e len:Nat} {cs:aA PV} (hg:aO h k=some (.box cs)) (d:C k=some (.atp id ver e len)):lim<=id/\∃ty esz row,Sim.look s.h id=some (.arr true ty esz ver [row])/\LR (RV C) cs row:=by
 obtain⟨pl,h1,h2⟩:=f.hr.ob k _ hg;rw[d]at h1;cases h1;obtain⟨a,b,c⟩:=h2;exact⟨a,c⟩
theorem kJ (j:cY C n h lim s) {k id ver e len e2 ty:Nat} {g:Bool} {rows:aA (aA PV)} (hg:aO h k=some (.lst ty e2 g rows)) (i:C k=some (.atp id ver e len)):lim<=id/\e=e2/\len=rows.length/\∃els,Sim.look s.h id=some (.arr false (Dx ty) e2 ver els)/\RR rows (els.take rows.length)/\rows.length<=els.length/\(g=false->els.length=rows.length):=by
 obtain⟨pl,h1,h2⟩:=j.hr.ob k _ hg;rw[i]at h1;cases h1;obtain⟨a,b,c,d,f⟩:=h2;exact⟨a,c,d,f⟩
theorem aR1 (j:cY C n h lim s) {k id ver e len:Nat} {fs:aA PV} (hg:aO h k=some (.fl fs)) (g:C k=some (.atp id ver e len)):lim<=id/\e=1/\len=fs.length/\∃ty els,Sim.look s.h id=some (.arr false ty 1 ver els)/\els.length=fs.length/\∀(i:Nat) (f:PV) (row:aA AV),fs[i]? =some f->els[i]? =some row->LR (RV C) [f] row:=by
 obtain⟨pl,h1,h2⟩:=j.hr.ob k _ hg;rw[g]at h1;cases h1;obtain⟨a,b,c,d,f⟩:=h2;exact⟨a,c,d,f⟩
theorem aS1 (b:cY C n h lim s) {k:Nat} {fs:aA PV} (hg:aO h k=some (.fl fs)) (a:C k=some .nil):False:=by
 obtain⟨pl,h1,h2⟩:=b.hr.ob k _ hg;rw[a]at h1;cases h1;exact h2
theorem lX (b:cY C n h lim s) {k e2 ty:Nat} {g:Bool} {rows:aA (aA PV)} (hg:aO h k=some (.lst ty e2 g rows)) (a:C k=some .nil):rows=[]:=by
 obtain⟨pl,h1,h2⟩:=b.hr.ob k _ hg;rw[a]at h1;cases h1;exact h2
theorem Ls (f:cY C n h lim s) {k id ver e len:Nat} {es:aA (PV×PV)} (hg:aO h k=some (.mp es)) (d:C k=some (.atp id ver e len)):lim<=id/\∃es',Sim.look s.h id=some (.map es')/\EM es es':=by
 obtain⟨pl,h1,h2⟩:=f.hr.ob k _ hg;rw[d]at h1;cases h1;obtain⟨a,b,c⟩:=h2;exact⟨a,c⟩
theorem Fz {y:AV} {d e:Nat} {rows:aA (aA PV)} (h:RV C (.zs d e rows) y):RZ C.z d (.is e rows) y:=by
 cases h with
 |cl h=>cases h
 |zs h=>exact h
theorem oM1 {y:AV} {es:aA (PV×PV)} (h:RV C (.zm es) y):(∃id es',y=.map id/\C.z id=some (.map es')/\EM es es')\/(es=[]/\y=.v (.map none)):=by
 cases h with
 |cl h=>cases h
 |zm h he=>exact .inl ⟨_,_,rfl,h,he⟩
 |zm0=>exact .inr ⟨rfl,rfl⟩
theorem yJ (b:cY C n h lim s) {k id ver e len e2 ty dp:Nat} {rows:aA (aA PV)} (hg:aO h k=some (.lz ty e2 dp rows)) (a:C k=some (.atp id ver e len)):lim<=id/\id<s.n/\e=e2/\len=rows.length/\iC ty=false/\∃els,Sim.look s.h id=some (.arr false ty e2 ver els)/\Fv C.z dp rows els:=by
 obtain⟨pl,h1,h2⟩:=b.hr.ob k _ hg;rw[a]at h1;cases h1;exact h2
theorem wU (b:cY C n h lim s) {k e2 ty dp:Nat} {rows:aA (aA PV)} (hg:aO h k=some (.lz ty e2 dp rows)) (a:C k=some .nil):rows=[]:=by
 obtain⟨pl,h1,h2⟩:=b.hr.ob k _ hg;rw[a]at h1;cases h1;exact h2
theorem oN1 {p:Bool} {e:Nat} {rows:aA (aA PV)} {y:AV} (h:RC p (.is e rows) y):(∃rows',y=.is e rows'/\RR rows rows')\/(rows=[]/\y=.v (.slice none 0 0)):=by
 cases h with
 |is a b c=>exact .inl ⟨_,rfl,.of_is a b c⟩
 |isn=>exact .inr ⟨rfl,rfl⟩
theorem Ga {z:Nat->aB AO} {d e:Nat} {rows:aA (aA PV)} {y:AV} (h:RZ z d (.is e rows) y):
  ((∃rows',y=.is e rows'/\RR rows rows')\/(rows=[]/\y=.v (.slice none 0 0)))\/∃c id ver ty els,d=c+1/\y=.sl e id ver 0 rows.length none/\z id=some (.arr false ty e ver els)/\rows.length<=els.length/\Fv z c rows (els.take rows.length):=by
 cases d with
 |zero=>exact .inl (oN1 h)
 |succ d=>
  rcases h with h|⟨e',rows',id,ver,ty,els,h1,h2,h3,h4,h5⟩
  exact .inl (oN1 h);cases h1;refine .inr ⟨d,id,ver,ty,els,rfl,h2,h3,h4,by simp[Nat.min_eq_left h4],fun i r r' a b=>h5 i r r' a ?_⟩;rw[xW2]at b;split at b;exact b;cases b
theorem Qa {rows:aA (aA PV)} {els:aA (aA AV)} (hr:RR rows (els.take rows.length)) {i:Nat} {row:aA PV} (hi:rows[i]? =some row):∃a,els[i]? =some a/\LR (RC true) row a:=by
 obtain⟨a,h1,h2⟩:=hr.get hi;have b:i<rows.length:=(wI2.1 hi).1;rw[xW2,wO2 b]at h1;exact⟨a,h1,h2⟩
def Gb (C:Cx) (n:Nat) (h:bC) (s:Hp) (k:fC) (ys:aA AV) (K:PV->bC->Nat->aB R) (r:R):Prop:=∃v y,(∀lim nS,doOp (Sim.look s.h) lim nS k ys=some {v:=y})/\RV C v y/\K v h n=some r
theorem Bv {k:fC} {v:PV} {y:AV} (hd:∀lim nS,doOp (Sim.look s.h) lim nS k ys=some {v:=y}) (hv:RV C v y) (hK:K v h n=some r):Gb C n h s k ys K r:=⟨v,y,hd,hv,hK⟩
theorem Gb.step (d:cY C n h lim s) {k:fC} (h1:Gb C n h s k ys K r):fI C n h lim s k ys K r:=by
 obtain⟨v,y,a,b,c⟩:=h1;exact bX d (a _ _) b c
theorem Bw (l:cY C n h lim s) (B:LR (RV C) xs ys) (hk:eC .loadS xs h n K=some r):Gb C n h s .loadS ys K r:=by
 rcases xs with _|⟨x,_|⟨x2,t⟩⟩
 exact aE hk;obtain⟨y,_,rfl,h1,h2⟩:=B.inv_cons;rw[h2.inv_nil];cases x with
 |ref k o=>
  have hk:hK h k (fun ob=>match ob with
   |.box cs=>iL o cs fun cs=>match cs with
    |c::_=>K c h n
    |[]=>none
   |_=>none)=some r:=hk
  rw[fS,wH2]at hk;obtain⟨ob,hg,hk⟩:=hk;cases ob with
  |box cs=>
   obtain⟨D,a⟩:=eP _ _ _ _ hk;obtain⟨id,ver,e,len,d,rfl⟩:=lM h1;obtain⟨_,ty,esz,row,j,hl⟩:=tF l hg d;cases hd:cs.drop o with
   |nil=>rw[hd]at a;exact aE a
   |cons c t=>
    rw[hd]at a;obtain⟨y,hy,hv⟩:=hl.get (wT hd);exact Bv (fun lim nS=>by simp[doOp,j,hy]) hv a
  |_=>exact aE hk
 |ip cs=>
  obtain⟨cs',rfl,hl⟩:=Fy h1;cases cs with
  |nil=>exact aE hk
  |cons c t=>
   obtain⟨y,q,rfl,hv,_⟩:=hl.inv_cons;exact Bv (fun _ _=>rfl) (.cl hv) hk
 |el k i o=>
  have hk:hK h k (fun ob=>match ob with
   |.lst _ _ _ rows=>cQ (Bj rows i o) fun c=>K c h n
   |.fl fs=>bif Nat.beq o 0 then(iL i fs fun fs=>match fs with
    |f::_=>K f h n
    |[]=>none)else none
   |_=>none)=some r:=hk
  rw[fS,wH2]at hk;obtain⟨ob,hg,hk⟩:=hk;cases ob with
  |lst ty e2 g rows=>
   simp only[cH,wH2,Bj]at hk;obtain⟨c,⟨row,hi,A⟩,hk⟩:=hk;obtain⟨id,ver,e,len,d,rfl⟩:=Bt h1;obtain⟨_,rfl,_,els,j,hr,_⟩:=kJ l hg d;obtain⟨u,m,hl⟩:=Qa hr hi;obtain⟨y,hy,hv⟩:=hl.get A;exact Bv (fun lim nS=>by simp[doOp,j,m,hy]) (.cl hv.weak) hk
  |fl fs=>
   simp only[bZ]at hk;by_cases v:o=0;subst v;rw[xX2 rfl,wZ2]at hk;obtain⟨D,a⟩:=eP _ _ _ _ hk;obtain⟨id,ver,e,len,d,rfl⟩:=Bt h1;obtain⟨_,_,_,ty,els,j,hlen,hr⟩:=aR1 l hg d;cases hd:fs.drop i with
   |nil=>rw[hd]at a;exact aE a
   |cons c t=>
    rw[hd]at a;have hi:=wT hd;have w:=(wI2.1 hi).1;obtain⟨y,q,b,hv,z⟩:=(hr i c (els[i]'(by omega)) hi (by simp)).inv_cons;rw[z.inv_nil]at b;have p:els[i]? =some [y]:=by rw[<-b];simp
    exact Bv (fun lim nS=>by simp[doOp,j,p]) hv a
   grind
  |_=>exact aE hk
 |_=>exact aE hk
 exact aE hk
theorem Bx {m:Nat} (w:cY C n h lim s) (B:LR (RV C) xs ys) (hk:eC (.loadA m) xs h n K=some r):Gb C n h s (.loadA m) ys K r:=by
 rcases xs with _|⟨x,_|⟨x2,t⟩⟩
 exact aE hk;obtain⟨y,_,rfl,h1,h2⟩:=B.inv_cons;rw[h2.inv_nil];cases x with
 |ref k o=>
  have hk:hK h k (fun ob=>match ob with
   |.box cs=>iL o cs fun cs=>qQ m cs fun cs=>K (.agg cs) h n
   |_=>none)=some r:=hk
  rw[fS,wH2]at hk;obtain⟨ob,hg,hk⟩:=hk;cases ob with
  |box cs=>
   obtain⟨E,D⟩:=eP _ _ _ _ hk;obtain⟨u,v⟩:=pD _ _ _ _ D;obtain⟨id,ver,e,len,f,rfl⟩:=lM h1;obtain⟨_,ty,esz,row,l,hl⟩:=tF w hg f;have hlen:=hl.1;simp only[List.length_drop]at u;have d:=(hl.drop o).take m;exact Bv (fun lim nS=>by simp[doOp,l];omega) (.agg d.1 d.2) v
  |_=>exact aE hk
 |ip cs=>
  obtain⟨cs',rfl,hl⟩:=Fy h1;have hk:qQ m cs (fun cs=>K (.agg cs) h n)=some r:=hk;obtain⟨u,v⟩:=pD _ _ _ _ hk;have d:=hl.take m;refine Bv (fun lim nS=>?_) (.cl (.agg d.1 d.2)) v;simp only[doOp];rw[wO2 (by rw[<-hl.1];exact u)]
 |el k i o=>
  have hk:hK h k (fun ob=>match ob with
   |.lst _ _ _ rows=>cQ (uR rows i o m) fun cs=>K (.agg cs) h n
   |_=>none)=some r:=hk
  rw[fS,wH2]at hk;obtain⟨ob,hg,hk⟩:=hk;cases ob with
  |lst ty e2 g rows=>
   simp only[cH,wH2,uR]at hk;obtain⟨c,⟨row,hi,q⟩,hk⟩:=hk;split at q;rename_i A;cases q;obtain⟨id,ver,e,len,f,rfl⟩:=Bt h1;obtain⟨_,rfl,_,els,l,hr,_⟩:=kJ w hg f;obtain⟨z,p,hl⟩:=Qa hr hi;have d:=(hl.drop o).take m;have hlen:=hl.1;exact Bv (fun lim nS=>by simp[doOp,l,p];omega) (.cl (.agg d.1 fun j x y a b=>(d.2 j x y a b).weak)) hk;cases q
  |_=>exact aE hk
 |_=>exact aE hk
 exact aE hk
theorem aT1 (a:cY C n h lim s) (b:LR (RV C) xs ys) (hk:eC .loadS xs h n K=some r):fI C n h lim s .loadS ys K r:=(Bw a b hk).step a
theorem aU1 {m:Nat} (a:cY C n h lim s) (b:LR (RV C) xs ys) (hk:eC (.loadA m) xs h n K=some r):fI C n h lim s (.loadA m) ys K r:=(Bx a b hk).step a
theorem aV1 {m:Nat} (y:cY C n h lim s) (P:LR (RV C) xs ys) (hk:eC (.store m) xs h n K=some r):fI C n h lim s (.store m) ys K r:=by
 rcases xs with _|⟨p,_|⟨x,_|⟨x2,t⟩⟩⟩
 exact aE hk;exact aE hk;obtain⟨T,_,rfl,h1,h2⟩:=P.inv_cons;obtain⟨U,_,rfl,h3,h4⟩:=h2.inv_cons;rw[h4.inv_nil];cases p with
 |ref k o=>
  have hk:hK h k (fun ob=>match ob with
   |.box cs=>nR x fun ys=>bif Nat.beq ys.length m then sZ cs o ys fun cs=>iM h k (.box cs) fun h=>K .undef h n else none
   |_=>none)=some r:=hk
  rw[fS,wH2]at hk;obtain⟨ob,hg,hk⟩:=hk;cases ob with
  |box cs=>
   simp only[mF,wH2]at hk;obtain⟨zs,w,hk⟩:=hk;obtain⟨c,u,d⟩:=qX h3 w;rw[bZ]at hk;by_cases M:zs.length=m;rw[xX2 M,wZ2]at hk;obtain⟨S,R⟩:=jX _ _ _ _ _ hk;have G:=eQ _ _ _ _ _ R;obtain⟨id,ver,e,len,j,rfl⟩:=lM h1;obtain⟨b,ty,esz,row,z,hl⟩:=tF y hg j;have l:=(y.hr.lt (by rw[hg];simp) j).2;obtain⟨H,J⟩:=tE y (po':=.box (Sim.setL cs o zs)) (ao:=.arr true ty esz ver [Sim.setL row o c]) hg j ⟨b,l,ty,esz,_,by rw[Sim.look_upd];simp[z],hl.setL d o⟩ rfl;have hlen:=hl.1;have q:=d.1;refine⟨_,_,_,_,{v:=.undef,up:=some (id,.arr true ty esz ver [Sim.setL row o c])},G,?_,.undef,H,.refl _,wK2 _,J,fun he=>by cases he⟩;simp only[doOp,u,z];rw[wO2 ⟨by trivial,b,by omega⟩];simp only[yQ2];rw[wO2 (by omega)];rfl;rw[yC2 M]at hk;exact aE hk
  |_=>exact aE hk
 |el k i o=>
  have hk:hK h k (fun ob=>match ob with
   |.lst ty e g rows=>nR x fun ys=>bif Nat.beq ys.length m&&ys.all gC then cQ (Bi rows i o ys) fun rows=>iM h k (.lst ty e g rows) fun h=>K .undef h n else none
   |_=>none)=some r:=hk
  rw[fS,wH2]at hk;obtain⟨ob,hg,hk⟩:=hk;cases ob with
  |lst ty e2 g rows=>
   simp only[mF,wH2]at hk;obtain⟨zs,w,hk⟩:=hk;obtain⟨c,u,d⟩:=qX h3 w;by_cases hc:(Nat.beq zs.length m&&zs.all gC)=true;rw[hc,wZ2,cH,wH2]at hk;simp only[wL2,bZ,wS2]at hc;obtain⟨L,a,hk⟩:=hk;have G:=eQ _ _ _ _ _ hk;unfold Bi at a;split at a;rename_i row hi;split at a;rename_i O;cases a;obtain⟨id,ver,e,len,j,rfl⟩:=Bt h1;obtain⟨b,rfl,hlen,els,z,hr,A,B⟩:=kJ y hg j;have l:=(y.hr.lt (by rw[hg];simp) j).2;obtain⟨f,D,hl⟩:=Qa hr hi;have N:i<rows.length:=(wI2.1 hi).1;have F:=d.plain hc.2
   obtain⟨H,J⟩:=tE y (po':=.lst ty e g (rows.set i (Sim.setL row o zs))) (ao:=.arr false (Dx ty) e ver (els.set i (Sim.setL f o c))) hg j
    ⟨b,l,rfl,by simpa using hlen,els.set i (Sim.setL f o c),by rw[Sim.look_upd];simp[z],by
     rw[List.length_set,List.take_set];exact hr.set (hl.setL F o) i,by simpa using A,by simpa using B⟩ rfl
   have E:=hl.1;have q:=d.1;refine⟨_,_,_,_,{v:=.undef,up:=some (id,.arr false (Dx ty) e ver (els.set i (Sim.setL f o c)))},G,?_,.undef,H,.refl _,wK2 _,J,fun he=>by cases he⟩;simp only[doOp,u,z];rw[wO2 ⟨by trivial,b,by omega⟩,D];simp only;rw[wO2 (by omega)];cases a;cases a;simp only[Bool.not_eq_true]at hc;rw[hc]at hk;exact aE hk
  |_=>exact aE hk
 |_=>exact aE hk
 exact aE hk
theorem rH1 {off:Nat} (b:cY C n h lim s) (d:LR (RV C) xs ys) (hk:eC (.fad off) xs h n K=some r):fI C n h lim s (.fad off) ys K r:=by
 rcases xs with _|⟨x,_|⟨x2,t⟩⟩
 exact aE hk;obtain⟨y,_,rfl,h1,h2⟩:=d.inv_cons;rw[h2.inv_nil];cases x with
 |ref k o=>
  obtain⟨id,ver,e,len,a,rfl⟩:=lM h1;exact bX b rfl (.ref a) hk
 |ip cs=>
  have hk:iL off cs (fun cs=>K (.ip cs) h n)=some r:=hk;obtain⟨g,f⟩:=eP _ _ _ _ hk;obtain⟨cs',rfl,hl⟩:=Fy h1;have c:=hl.drop off;exact bX b rfl (.cl (.ip c.1 c.2)) f
 |el k i o=>
  obtain⟨id,ver,e,len,a,rfl⟩:=Bt h1;exact bX b rfl (.el a) hk
 |_=>exact aE hk
 exact aE hk
end
end Go.P
namespace Go.P
open Go.Sim (AV AO Hp gP upd St IC IX Ex fC CK Wf Out doOp)
section
variable {R:Type} {C:Cx} {n:Nat} {h:bC} {lim:Nat} {s:Hp} {k:fC} {xs:List PV} {ys:List AV} {K:PV->bC->Nat->Option R} {r:R}
theorem rI1 {e:Nat} (f:cY C n h lim s) (z:LR (RV C) xs ys) (hk:eC (.iad e) xs h n K=some r):fI C n h lim s (.iad e) ys K r:=by
 rcases xs with _|⟨x,_|⟨i,_|⟨x2,t⟩⟩⟩
 exact aE hk;exact aE hk;obtain⟨A,_,rfl,h1,h2⟩:=z.inv_cons;obtain⟨B,_,rfl,h3,h4⟩:=h2.inv_cons;rw[h4.inv_nil];cases i with
 |v iv=>
  cases iv with
  |int kk i=>
   rw[gG h3];cases x with
   |is e' rows=>
    have hk:(bif Nat.beq e' e then cQ (tA rows i) (fun row=>K (.ip row) h n)else none)=some r:=hk;rw[bZ]at hk;by_cases l:e'=e;subst l;simp only[yO2,wZ2,cH,wH2,tA]at hk;obtain⟨row,c,hk⟩:=hk;split at c;rename_i h0;rcases Sy h1 with⟨rows',rfl,hr⟩|⟨rfl,_⟩
    obtain⟨u,q,hl⟩:=hr.get c;exact bX f (by simp[doOp,Sim.intOf,h0,q]) (.cl (.ip hl.1 fun j x y a b=>(hl.2 j x y a b).weak)) hk;simp at c;cases c
    grind
   |own k=>
    have hk:hK h k (fun ob=>match ob with
     |.lst _ e' _ rows=>bif Nat.beq e' e then cQ (qR rows.length i) (fun i=>K (.el k i 0) h n)else none
     |.fl fs=>bif Nat.beq e 1 then hP1 i (fun i=>bif Nat.blt i fs.length then K (.el k i 0) h n else none)else none
     |_=>none)=some r:=hk
    rw[fS,wH2]at hk;obtain⟨ob,hg,hk⟩:=hk;cases ob with
    |lst ty e2 g rows=>
     simp only[bZ]at hk;by_cases l:e2=e;subst l;simp only[yO2,wZ2,cH,wH2,qR]at hk;obtain⟨m,p,o⟩:=hk;split at p;rename_i h0;cases p;rcases jP h1 with⟨id,ver,w,len,d,rfl⟩|⟨d,_⟩
     obtain⟨_,rfl,hlen,_⟩:=kJ f hg d;refine bX (v:=.el k i.toNat 0) (y:=.ptr id ver i.toNat 0) f ?_ (.el d) o;simp only[doOp,Sim.intOf];rw[wO2 ⟨by trivial,h0.1,by omega⟩,yP2];have:=lX f hg d;subst this;simp at h0;omega;cases p
     grind
    |fl fs=>
     simp only[bZ]at hk;by_cases l:e=1;subst l;rw[xX2 rfl,wZ2]at hk;cases i with
     |negSucc m=>exact aE hk
     |ofNat m=>
      cases hlt:Nat.blt m fs.length with
      |false=>simp only[hP1,hlt,xO2]at hk;exact aE hk
      |true=>
       simp only[hP1,hlt,wZ2]at hk;rw[zB2]at hlt;rcases jP h1 with⟨id,ver,w,len,d,rfl⟩|⟨d,_⟩
       obtain⟨_,rfl,hlen,_⟩:=aR1 f hg d;refine bX (v:=.el k m 0) (y:=.ptr id ver m 0) f ?_ (.el d) hk;simp only[doOp,Sim.intOf];rw[wO2 ⟨by trivial,by simp,by simp;omega⟩,yP2];rfl;exact(aS1 f hg d).elim
     grind
    |_=>exact aE hk
   |_=>exact aE hk
  |_=>exact aE hk
 |_=>exact aE hk
 exact aE hk
theorem Vz (c:cY C n h lim s) (d:LR (RV C) xs ys) (hk:eC .idxStr xs h n K=some r):fI C n h lim s .idxStr ys K r:=by
 rcases xs with _|⟨x,_|⟨i,_|⟨x2,t⟩⟩⟩
 exact aE hk;exact aE hk;obtain⟨f,_,rfl,h1,h2⟩:=d.inv_cons;obtain⟨g,_,rfl,h3,h4⟩:=h2.inv_cons;rw[h4.inv_nil];cases x with
 |v xv=>
  cases xv with
  |string b=>
   cases i with
   |v iv=>
    cases iv with
    |int kk i=>
     rw[gG h1,gG h3];have hk:cQ (qS b i) (fun b=>K (.v (.int .u8 b)) h n)=some r:=hk;simp only[cH,wH2,qS]at hk;obtain⟨m,a,hk⟩:=hk;split at a;rename_i h0;simp only[wM2]at a;obtain⟨e,hb,rfl⟩:=a;refine bX c ?_ (.cl (.v _)) hk;simp only[doOp,Sim.intOf];rw[wO2 h0,hb];cases a
    |_=>exact aE hk
   |_=>exact aE hk
  |_=>cases i with
   |v iv=>cases iv<;>exact aE hk
   |_=>exact aE hk
 |_=>cases i with
  |v iv=>cases iv<;>exact aE hk
  |_=>exact aE hk
 exact aE hk
theorem hS1 {len e:Nat} {agg:Bool} (b:cY C n h lim s) (f:LR (RV C) xs ys) (hk:eC (.idxA len e agg) xs h n K=some r):fI C n h lim s (.idxA len e agg) ys K r:=by
 rcases xs with _|⟨x,_|⟨i,_|⟨x2,t⟩⟩⟩
 exact aE hk;exact aE hk;obtain⟨g,_,rfl,h1,h2⟩:=f.inv_cons;obtain⟨j,_,rfl,h3,h4⟩:=h2.inv_cons;rw[h4.inv_nil];cases x with
 |agg cs=>
  obtain⟨cs',rfl,hl⟩:=nT h1;cases i with
  |v iv=>
   cases iv with
   |int kk i=>
    rw[gG h3];have hk:(bif agg then cQ (qT cs i len e) (fun cs=>K (.agg cs) h n)else cQ (uS cs i len e) fun c=>K c h n)=some r:=hk;cases agg with
    |true=>
     simp only[wZ2,cH,wH2,qT]at hk;obtain⟨q,a,hk⟩:=hk;split at a;rename_i h0;cases a;have d:=(hl.drop (i.toNat*e)).take e;refine bX b ?_ (.agg d.1 d.2) hk;simp only[doOp,Sim.intOf];rw[wO2 ⟨h0.1,h0.2.1⟩];rfl;cases a
    |false=>
     simp only[xO2,cH,wH2,uS]at hk;obtain⟨q,a,hk⟩:=hk;split at a;rename_i h0;obtain⟨y,hy,hv⟩:=hl.get a;refine bX b ?_ hv hk;simp only[doOp,Sim.intOf];rw[wO2 h0];simp[hy];cases a
   |_=>exact aE hk
  |_=>exact aE hk
 |_=>cases i with
  |v iv=>cases iv<;>exact aE hk
  |_=>exact aE hk
 exact aE hk
theorem Wa {op:BinOp} {x y:PV} {K:PV->aB R} {r:R} (hk:rC1 op x y K=some r):∃a b c,x=.v a/\y=.v b/\Sim.binS op a b=some c/\K (.v c)=some r:=by
 cases x with
 |v a=>
  cases y with
  |v b=>
   cases a with
   |int k a=>
    cases b with
    |int k' b=>
     have key:∀{z:aB R} {w:aB Value},(op≠.shl/\op≠.shr)->(rC1 op (.v (.int k a)) (.v (.int k' b)) K=bif kEq k k' then z else none)->(Sim.binS op (.int k a) (.int k' b)=if k=k' then w else none)->(z=some r->∃c,w=some c/\K (.v c)=some r)->∃a' b' c,PV.v (.int k a)=.v a'/\PV.v (.int k' b)=.v b'/\Sim.binS op a' b'=some c/\K (.v c)=some r:=by
      intro z w _ f e2 g;rw[f,Sx]at hk;by_cases e:k=k'
      .rw [xX2 e,wZ2]at hk
       obtain⟨c,i,j⟩:=g hk;exact⟨_,_,c,rfl,rfl,by rw[e2,wO2 e];exact i,j⟩
      .rw [yC2 e]at hk;exact aE hk
     cases op
     case shl=>
      have hk:cQ (if b<0 then none else some (k.wrap (a*2^min b.toNat k.bits))) (fun r=>K (.v (.int k r)))=some r:=hk;simp only[cH,wH2]at hk;obtain⟨q,d,hk⟩:=hk;split at d
      .cases d
      .rename_i h0
       cases d;exact⟨_,_,_,rfl,rfl,by simp only[Sim.binS];rw[wN2 h0],hk⟩
     case shr=>
      have hk:cQ (if b<0 then none else some (a.fdiv (2^min b.toNat k.bits))) (fun r=>K (.v (.int k r)))=some r:=hk;simp only[cH,wH2]at hk;obtain⟨q,d,hk⟩:=hk;split at d
      .cases d
      .rename_i h0
       cases d;exact⟨_,_,_,rfl,rfl,by simp only[Sim.binS];rw[wN2 h0],hk⟩
     case add=>exact key (by simp) rfl rfl (fun h=>⟨_,rfl,h⟩)
     case sub=>exact key (by simp) rfl rfl (fun h=>⟨_,rfl,h⟩)
     case mul=>exact key (by simp) rfl rfl (fun h=>⟨_,rfl,h⟩)
     case and=>exact key (by simp) rfl rfl (fun h=>⟨_,rfl,h⟩)
     case or=>exact key (by simp) rfl rfl (fun h=>⟨_,rfl,h⟩)
     case xor=>exact key (by simp) rfl rfl (fun h=>⟨_,rfl,h⟩)
     case andNot=>exact key (by simp) rfl rfl (fun h=>⟨_,rfl,h⟩)
     case eql=>exact key (by simp) rfl rfl (fun h=>⟨_,rfl,h⟩)
     case neq=>exact key (by simp) rfl rfl (fun h=>⟨_,rfl,h⟩)
     case lss=>exact key (by simp) rfl rfl (fun h=>⟨_,rfl,h⟩)
     case leq=>exact key (by simp) rfl rfl (fun h=>⟨_,rfl,h⟩)
     case gtr=>exact key (by simp) rfl rfl (fun h=>⟨_,rfl,h⟩)
     case geq=>exact key (by simp) rfl rfl (fun h=>⟨_,rfl,h⟩)
     case quo=>exact key (z:=cQ (if b=0 then none else some (k.wrap (a.tdiv b))) fun r=>K (.v (.int k r))) (by simp) rfl rfl (fun h=>by
      simp only[cH,wH2]at h;obtain⟨q,d,h⟩:=h;split at d
      .cases d
      .rename_i h0;cases d;exact⟨_,by rw[wN2 h0],h⟩)
     case rem=>exact key (z:=cQ (if b=0 then none else some (a.tmod b)) fun r=>K (.v (.int k r))) (by simp) rfl rfl (fun h=>by
      simp only[cH,wH2]at h;obtain⟨q,d,h⟩:=h;split at d
      .cases d
      .rename_i h0;cases d;exact⟨_,by rw[wN2 h0],h⟩)
     all_goals (first|exact aE hk|exact key (z:=none) (w:=none) (by simp) rfl rfl (fun h=>aE h))
    |_=>exact aE hk
   |string a=>
    cases b with
    |string b=>
     cases op
     case add=>
      have hk:cQ (if a.size+b.size<=2^62 then some (a++b)else none) (fun r=>K (.v (.string r)))=some r:=hk;simp only[cH,wH2]at hk;obtain⟨q,d,hk⟩:=hk;split at d
      .rename_i h0
       cases d;exact⟨_,_,_,rfl,rfl,by simp only[Sim.binS];rw[wO2 h0],hk⟩
      .cases d
     all_goals first|exact aE hk|exact⟨_,_,_,rfl,rfl,rfl,hk⟩
    |_=>exact aE hk
   |_=>exact aE hk
  |_=>exact aE hk
 |_=>exact aE hk
theorem rJ1 {op:BinOp} (d:cY C n h lim s) (e:LR (RV C) xs ys) (hk:eC (.bin op) xs h n K=some r):fI C n h lim s (.bin op) ys K r:=by
 rcases xs with _|⟨x,_|⟨i,_|⟨x2,t⟩⟩⟩
 exact aE hk;exact aE hk;obtain⟨f,_,rfl,h1,h2⟩:=e.inv_cons;obtain⟨g,_,rfl,h3,h4⟩:=h2.inv_cons;rw[h4.inv_nil];obtain⟨a,b,c,rfl,rfl,hb,hk⟩:=Wa (K:=fun v=>K v h n) hk;rw[gG h1,gG h3];exact bX d (by simp[doOp,hb]) (.cl (.v c)) hk;exact aE hk
theorem rK1 {neg:Bool} (c:cY C n h lim s) (d:LR (RV C) xs ys) (hk:eC (.eqB neg) xs h n K=some r):fI C n h lim s (.eqB neg) ys K r:=by
 rcases xs with _|⟨x,_|⟨i,_|⟨x2,t⟩⟩⟩
 exact aE hk;exact aE hk;obtain⟨e,_,rfl,h1,h2⟩:=d.inv_cons;obtain⟨f,_,rfl,h3,h4⟩:=h2.inv_cons;rw[h4.inv_nil];cases x with
 |v xv=>
  cases xv with
  |bool a=>
   cases i with
   |v iv=>
    cases iv with
    |bool b=>
     rw[gG h1,gG h3];exact bX c rfl (.cl (.v _)) hk
    |_=>exact aE hk
   |_=>exact aE hk
  |_=>cases i with
   |v iv=>cases iv<;>exact aE hk
   |_=>exact aE hk
 |_=>cases i with
  |v iv=>cases iv<;>exact aE hk
  |_=>exact aE hk
 exact aE hk
theorem Gc:∀(ks:aA CK) (as i:aA PV) (K:Bool->aB R) (r:R) (c d:aA AV),hO1 ks as i K=some r->LR (RV C) as c->LR (RV C) i d->
  ∃b,Sim.cellsEq ks c d=some b/\K b=some r/\c.length=ks.length/\d.length=ks.length
 |[],[],[],K,r,c,d,h,ha,hb=>by
  rw[ha.inv_nil,hb.inv_nil]
  exact⟨true,rfl,h,rfl,rfl⟩
 |k::ks,a::as,b::i,K,r,c,d,h,ha,hb=>by
  obtain⟨y,ys,rfl,h1,h2⟩:=ha.inv_cons
  obtain⟨z,zs,rfl,h3,h4⟩:=hb.inv_cons
  simp only[hO1]at h
  obtain⟨t,n,f,o,p⟩:=Gc ks as i _ r ys zs h h2 h4
  have fin:∀q:Bool,Sim.cellEq k y z=some q->K (q&&t)=some r->∃b,Sim.cellsEq (k::ks) (y::ys) (z::zs)=some b/\K b=some r/\(y::ys).length=(k::ks).length/\(z::zs).length=(k::ks).length:=by
   intro q l hK;refine⟨q&&t,?_,hK,by simp[o],by simp[p]⟩;simp only[Sim.cellsEq,l];cases q;rfl;simpa using n
  split at f;rename_i j x m g;rw[Sx]at f;by_cases e:j=m;rw[xX2 e,wZ2]at f;rw[gG h1,gG h3]at fin ⊢;exact fin (x==g) (by simp[Sim.cellEq,e]) f
  grind
  rename_i x g;rw[gG h1,gG h3]at fin ⊢;exact fin (x==g) rfl f;rename_i x g;rw[gG h1,gG h3]at fin ⊢;exact fin (x==g) rfl f;exact aE f
 |[],_::_,_,_,_,_,_,h,_,_=>aE h
 |[],[],_::_,_,_,_,_,h,_,_=>aE h
 |_::_,[],_,_,_,_,_,h,_,_=>aE h
 |_::_,_::_,[],_,_,_,_,h,_,_=>aE h
theorem rL1 {neg:Bool} {ks:aA CK} (d:cY C n h lim s) (f:LR (RV C) xs ys) (hk:eC (.eqA neg ks) xs h n K=some r):fI C n h lim s (.eqA neg ks) ys K r:=by
 rcases xs with _|⟨x,_|⟨i,_|⟨x2,t⟩⟩⟩
 exact aE hk;exact aE hk;obtain⟨m,_,rfl,h1,h2⟩:=f.inv_cons;obtain⟨o,_,rfl,h3,h4⟩:=h2.inv_cons;rw[h4.inv_nil];cases x with
 |agg as=>
  cases i with
  |agg bs=>
   obtain⟨a,rfl,e⟩:=nT h1;obtain⟨c,rfl,hb⟩:=nT h3;obtain⟨b,g,j,k,l⟩:=Gc ks as bs _ r a c hk e hb;refine bX d ?_ (.cl (.v _)) j;simp only[doOp];rw[wO2 ⟨k,l⟩,g]
  |_=>exact aE hk
 |_=>cases i<;>exact aE hk
 exact aE hk
theorem wF1 {op:UnOp} (a:cY C n h lim s) (b:LR (RV C) xs ys) (hk:eC (.un op) xs h n K=some r):fI C n h lim s (.un op) ys K r:=by
 rcases xs with _|⟨x,_|⟨x2,t⟩⟩
 exact aE hk;obtain⟨y,_,rfl,h1,h2⟩:=b.inv_cons;rw[h2.inv_nil];cases x with
 |v xv=>
  rw[gG h1];cases op<;>cases xv<;>first|exact aE hk|exact bX a rfl (.cl (.v _)) hk
 |_=>cases op<;>exact aE hk
 exact aE hk
theorem aW1 {k:IntKind} (a:cY C n h lim s) (b:LR (RV C) xs ys) (hk:eC (.convI k) xs h n K=some r):fI C n h lim s (.convI k) ys K r:=by
 rcases xs with _|⟨x,_|⟨x2,t⟩⟩
 exact aE hk;obtain⟨y,_,rfl,h1,h2⟩:=b.inv_cons;rw[h2.inv_nil];cases x with
 |v xv=>
  rw[gG h1];cases xv<;>first|exact aE hk|exact bX a rfl (.cl (.v _)) hk
 |_=>exact aE hk
 exact aE hk
theorem Lt (b:ByteArray):RR (byteRows b) (Sim.byteRows b):=by
 unfold byteRows Sim.byteRows
 induction b.data.toList with
 |nil=>exact .nil
 |cons a as ih=>exact .cons (.cons (.v _) .nil) ih
theorem rM1 {t:TypeId} (a:cY C n h lim s) (c:LR (RV C) xs ys) (hk:eC (.s2b t) xs h n K=some r):fI C n h lim s (.s2b t) ys K r:=by
 rcases xs with _|⟨x,_|⟨x2,t⟩⟩
 exact aE hk;obtain⟨y,_,rfl,h1,h2⟩:=c.inv_cons;rw[h2.inv_nil];cases x with
 |v xv=>
  rw[gG h1];cases xv with
  |string b=>exact bX a rfl (.cl (Lt b).is) hk
  |_=>exact aE hk
 |_=>exact aE hk
 exact aE hk
theorem hT1 {f:Fn} {m:Nat} (g:cY C n h lim s) (e:LR (RV C) xs ys) (hk:eC (.mkfn f m) xs h n K=some r):fI C n h lim s (.mkfn f m) ys K r:=by
 cases f with
 |func f=>
  have hk:qQ m xs (fun a=>iL m xs fun b=>K (.fn f a b) h n)=some r:=by
   rcases xs with _|⟨a,_|⟨b,_|⟨c,t⟩⟩⟩<;>exact hk
  obtain⟨_,i⟩:=pD _ _ _ _ hk;obtain⟨_,j⟩:=eP _ _ _ _ i;have d:=e.take m;have hb:=e.drop m;refine bX g ?_ (.fn d.1 hb.1 d.2 hb.2) j;rcases ys with _|⟨a,_|⟨b,_|⟨c,t⟩⟩⟩<;>rfl
 |_=>rcases xs with _|⟨a,_|⟨b,_|⟨c,t⟩⟩⟩<;>exact aE hk
theorem aX1 (a:cY C n h lim s) (c:LR (RV C) xs ys) (hk:eC .mkmap xs h n K=some r):fI C n h lim s .mkmap ys K r:=by
 rcases xs with _|⟨x,t⟩
 have hk:K (.map n) ((n,.mp [])::h) (n+1)=some r:=hk;rw[c.inv_nil];have b:=lL a (.atp s.n 0 0 1);obtain⟨d,f,g⟩:=qY a (po:=.mp []) (ao:=.map []) (ver:=0) (e:=0) (len:=1) ⟨a.lim,by omega,[],by rw[eZ,wO2 rfl],rfl,fun j x y h=>by simp at h⟩;exact⟨_,_,_,_,{v:=.map s.n,new:=some (.map [])},hk,rfl,.map (nU C n _),d,b,by omega,f,fun _=>g⟩;exact aE hk
theorem hU1 {ty:TypeId} {e b:Nat} {zero:aA Value} (d:cY C n h lim s) (k:LR (RV C) xs ys) (hk:eC (.mksl ty e b zero) xs h n K=some r):fI C n h lim s (.mksl ty e b zero) ys K r:=by
 rcases xs with _|⟨x,_|⟨i,_|⟨x2,t⟩⟩⟩
 exact aE hk;exact aE hk;obtain⟨q,_,rfl,h1,h2⟩:=k.inv_cons;obtain⟨u,_,rfl,h3,h4⟩:=h2.inv_cons;rw[h4.inv_nil];cases x with
 |v xv=>
  cases xv with
  |int k1 l=>
   cases i with
   |v iv=>
    cases iv with
    |int k2 c=>
     rw[gG h1,gG h3];have hk:(bif iC ty then none else uQ (zero.map .v) (fun z=>cQ (qU l c z) fun rows=>K (.own n) ((n,.lst ty e true rows)::h) (n+1)))=some r:=hk;cases hfx:iC ty with
     |true=>rw[hfx]at hk;exact aE hk
     |false=>
     rw[hfx,xO2]at hk;have j:Dx ty=ty:=by simp[Dx,hfx]
     simp only[rS,cH,wH2,qU]at hk;obtain⟨rows,g,hk⟩:=hk;split at g;rename_i h0;cases g;have f:=lL d (.atp s.n 0 e l.toNat);have a:l.toNat<=c.toNat:=by omega
     obtain⟨m,o,p⟩:=qY d (po:=.lst ty e true (List.replicate l.toNat (zero.map .v))) (ao:=.arr false ty e 0 (List.replicate c.toNat (Sim.zeroRow zero))) (ver:=0) (e:=e) (len:=l.toNat)
      ⟨d.lim,by omega,rfl,by simp,_,by rw[eZ,wO2 rfl,j],by
       rw[List.length_replicate,List.take_replicate,Nat.min_eq_left a];exact RR.replicate (LR.zeroP zero) _,by simpa using a,fun h=>by cases h⟩
     refine⟨_,_,_,_,{v:=.sl e s.n 0 0 l.toNat none,new:=some (.arr false ty e 0 (List.replicate c.toNat (Sim.zeroRow zero)))},hk,?_,.own (nU C n _),m,f,by omega,o,fun _=>p⟩;simp only[doOp,Sim.intOf];rw[wO2 h0];cases g
    |_=>exact aE hk
   |_=>exact aE hk
  |_=>cases i with
   |v iv=>cases iv<;>exact aE hk
   |_=>exact aE hk
 |_=>cases i with
  |v iv=>cases iv<;>exact aE hk
  |_=>exact aE hk
 exact aE hk
end
end Go.P
namespace Go.P
open Go.Sim (AV AO Hp gP upd St IC IX Ex fC CK Wf Out doOp)
section
variable {R:Type} {C:Cx} {n:Nat} {h:bC} {lim:Nat} {s:Hp} {k:fC} {xs:List PV} {ys:List AV} {K:PV->bC->Nat->Option R} {r:R}
theorem Hz {lo hi:Bool} {len:Nat} {c:aA PV} {K:Int->Int->aB R} {a:aA AV} (b:LR (RV C) c a) (hk:zA lo hi len c K=some r):∃l q,Sim.bounds lo hi len a=some (l,q)/\K l q=some r:=by
 unfold zA at hk;split at hk;rw[b.inv_nil];exact⟨_,_,rfl,hk⟩;obtain⟨y,_,rfl,h1,h2⟩:=b.inv_cons;rw[h2.inv_nil,gG h1];exact⟨_,_,rfl,hk⟩;obtain⟨y,_,rfl,h1,h2⟩:=b.inv_cons;rw[h2.inv_nil,gG h1];exact⟨_,_,rfl,hk⟩;obtain⟨y,_,rfl,h1,h2⟩:=b.inv_cons;obtain⟨d,_,rfl,h3,h4⟩:=h2.inv_cons;rw[h4.inv_nil,gG h1,gG h3];exact⟨_,_,rfl,hk⟩;exact aE hk
theorem rN1 {e:Nat} {lo hi mx:Bool} (k:cY C n h lim s) (o:LR (RV C) xs ys) (hk:eC (.slc e lo hi mx) xs h n K=some r):fI C n h lim s (.slc e lo hi mx) ys K r:=by
 rcases xs with _|⟨x,bs⟩
 exact aE hk;obtain⟨y,a,rfl,h1,h2⟩:=o.inv_cons
 have hk:(bif mx then none else match(generalizing:=false) x with
  |.is e' rows=>bif Nat.beq e' e then zA lo hi rows.length bs (fun l r=>cQ (oD rows l r) fun rows=>K (.is e rows) h n)else none
  |_=>none)=some r:=by
  rcases bs with _|⟨b,_|⟨c,t⟩⟩<;>exact hk
 cases mx with
 |true=>exact aE hk
 |false=>
  rw[xO2]at hk;cases x with
  |is e' rows=>
   simp only[bZ]at hk;by_cases m:e'=e;subst m;rw[xX2 rfl,wZ2]at hk;obtain⟨l,q,hb,hk⟩:=Hz h2 hk;simp only[cH,wH2,oD]at hk;obtain⟨j,f,hk⟩:=hk;split at f;rename_i h0;cases f;rcases Bs h1 with⟨rows',rfl,hr⟩|⟨rfl,hy⟩
   have hlen:=hr.1;refine bX k ?_ (.cl ((hr.drop l.toNat).take (q.toNat-l.toNat)).is) hk;have d:Sim.bounds lo hi rows'.length a=some (l,q):=by rw[<-hlen];exact hb
   have:Sim.sliceOp (Sim.look s.h) e' lo hi false (.is e' rows'::a)=some (.is e' ((rows'.drop l.toNat).take (q.toNat-l.toNat))):=by
    simp only[Sim.sliceOp];simp only[wU2,xQ2,d];rw[wO2 ⟨by trivial,h0.1,h0.2.1,by rw[<-hlen];exact h0.2.2⟩]
   rcases a with _|⟨b,_|⟨c,t⟩⟩<;>simp only[doOp,this,xP2];have g:l=0:=by simp at h0;omega
   have i:q=0:=by simp at h0;omega
   subst g;subst i;have d:Sim.bounds lo hi 0 a=some (0,0):=hb
   have:Sim.sliceOp (Sim.look s.h) e' lo hi false (y::a)=some y:=by
    subst hy;simp[Sim.sliceOp,d]
   refine bX (y:=y) k ?_ ?_ hk;rcases a with _|⟨b,_|⟨c,t⟩⟩<;>simp only[doOp,this,xP2]
   grind
   cases f
   grind
  |_=>exact aE hk
theorem Gd {k:CK} {a b:PV} {a' b':AV} (c:RC false a a') (hb:RC false b b') {q:Bool} (h:pA k a b=some q):Sim.cellEq k a' b'=some q:=by
 unfold pA at h;split at h;cases c;cases hb;exact h;cases c;cases hb;exact h;cases c;cases hb;exact h;cases h
theorem tG:∀{ks:aA CK} {as e:aA PV} {c d:aA AV},LR (RC false) as c->LR (RC false) e d->∀{q:Bool},kH ks as e=some q->Sim.cellsEq ks c d=some q
 |[],[],[],c,d,ha,hb,q,h=>by rw[ha.inv_nil,hb.inv_nil];exact h
 |k::ks,a::as,b::e,c,d,ha,hb,q,h=>by
  obtain⟨y,ys,rfl,h1,h2⟩:=ha.inv_cons
  obtain⟨z,zs,rfl,h3,h4⟩:=hb.inv_cons
  simp only[kH]at h
  simp only[Sim.cellsEq]
  split at h
  rename_i he;rw[Gd h1 h3 he];exact tG h2 h4 h
  rename_i he;rw[Gd h1 h3 he];exact h
  cases h
 |[],_::_,_,_,_,_,_,_,h=>by cases h
 |[],[],_::_,_,_,_,_,_,h=>by cases h
 |_::_,[],_,_,_,_,_,_,h=>by cases h
 |_::_,_::_,[],_,_,_,_,_,h=>by cases h
theorem Qb {p:Bool} {cs:aA PV} {y:AV} (h:RC p (.agg cs) y):∃cs',y=.agg cs'/\LR (RC false) cs cs':=by
 cases h with|agg a b=>exact⟨_,rfl,a,b⟩
theorem Lu {agg:Bool} {ks:aA CK} {a b:PV} {a' b':AV} (c:RC false a a') (hb:RC false b b') {q:Bool} (h:qV agg ks a b=some q):Sim.keyEq agg ks a' b'=some q:=by
 unfold qV at h;unfold Sim.keyEq;cases agg with
 |true=>
  simp only[xM2]at h ⊢;split at h;obtain⟨x,rfl,h1⟩:=Qb c;obtain⟨y,rfl,h2⟩:=Qb hb;simp only;split at h;rename_i hc;rw[wO2 ⟨by rw[<-h1.1];exact hc.1,by rw[<-h2.1];exact hc.2⟩];exact tG h1 h2 h;cases h;cases h
 |false=>
  simp only[wU2,xQ2]at h ⊢;exact tG (.cons c .nil) (.cons hb .nil) h
theorem ER.nil:ER [] []:=⟨rfl,fun j x y h=>by simp at h⟩
theorem ER.inv_cons {x:PV×PV} {es:aA (PV×PV)} {es':aA (AV×AV)} (h:ER (x::es) es'):∃y t,es'=y::t/\RC false x.1 y.1/\RC false x.2 y.2/\ER es t:=by
 cases es' with
 |nil=>have:=h.1;simp at this
 |cons y t=>exact⟨y,t,rfl,(h.2 0 x y rfl rfl).1,(h.2 0 x y rfl rfl).2,by have:=h.1;simpa using this,fun j a b c hb=>h.2 (j+1) a b (by simpa using c) (by simpa using hb)⟩
theorem zC {agg:Bool} {ks:aA CK} {k:PV} {k':AV} (hk:RC false k k'):∀{es:aA (PV×PV)} {es':aA (AV×AV)} {i:Nat} {o:aB (Nat×PV)},ER es es'->uT agg ks k es i=some o->
  ∃o',Sim.findKey agg ks k' es' i=some o'/\((o=none/\o'=none)\/∃j x y,o=some (j,x)/\o'=some (j,y)/\RC false x y)
 |[],es',i,o,he,h=>by
  have:es'=[]:=by have:=he.1;simpa using this.symm
  subst this
  simp only[uT,wP2]at h
  exact⟨none,rfl,.inl ⟨h.symm,rfl⟩⟩
 |(a,x)::es,es',i,o,he,h=>by
  obtain⟨⟨b,y⟩,t,rfl,h1,h2,h3⟩:=he.inv_cons
  simp only[uT]at h
  simp only[Sim.findKey]
  split at h
  rename_i c
  rw[Lu hk h1 c]
  cases h
  exact⟨_,rfl,.inr ⟨i,x,y,rfl,rfl,h2⟩⟩
  rename_i c
  rw[Lu hk h1 c]
  exact zC hk h3 h
  cases h
theorem oG {agg:Bool} {ks:aA CK} {k:PV} {k':AV} (hk:RC false k k') (h:wP agg ks k=true):Sim.keyOK agg ks k'=true:=by
 unfold wP at h;split at h;obtain⟨cs',rfl,hl⟩:=Qb hk;simp only[wL2,yI2]at h;simp[Sim.keyOK,<-hl.1,h.2];cases hk;simp only[xG2]at h;subst h;rfl;cases h
theorem Ge {x:PV} {y:AV} (h:RV C x y):∀{d:Nat},dY d x=true->RC false x y:=by
 induction h with
 |cl h=>intro d _;exact h
 |fn h1 h2 v1 v2 i1 i2=>
  intro d hd;cases d with
  |zero=>simp[dY]at hd
  |succ d=>
   simp only[dY,wL2,wR2]at hd;exact .fn h1 h2 (fun j x y a b=>i1 j x y a b (hd.1 x (wT2 a))) (fun j x y a b=>i2 j x y a b (hd.2 x (wT2 a)))
 |agg hl hc ih=>
  intro d hd;cases d with
  |zero=>simp[dY]at hd
  |succ d=>
   simp only[dY,wR2]at hd;exact .agg hl (fun j x y a b=>ih j x y a b (hd x (wT2 a)))
 |tup hl hc ih=>
  intro d hd;cases d with
  |zero=>simp[dY]at hd
  |succ d=>
   simp only[dY,wR2]at hd;exact .tup hl (fun j x y a b=>ih j x y a b (hd x (wT2 a)))
 |_=>intro d hd;cases d<;>simp[dY]at hd
theorem Wb {agg ok:Bool} {ks:aA CK} {zero:AV} (g:cY C n h lim s) (A:LR (RV C) xs ys) (hk:eC (.lookup agg ks zero ok) xs h n K=some r):fI C n h lim s (.lookup agg ks zero ok) ys K r:=by
 rcases xs with _|⟨m,_|⟨k,_|⟨x2,t⟩⟩⟩
 exact aE hk;exact aE hk;obtain⟨w,_,rfl,h1,h2⟩:=A.inv_cons;obtain⟨B,_,rfl,h3,h4⟩:=h2.inv_cons;rw[h4.inv_nil];cases hz:zero with
 |v z=>
  subst hz
  have key:∀(es:aA (PV×PV)) (es':aA (AV×AV)),ER es es'->Sim.entsOf (Sim.look s.h) w=some es'->
    (bif dY 2 k then(bif ok then cQ (pB agg ks (.v z) k es) (fun r=>K (.tup [r.1,.v (.bool r.2)]) h n)else cQ (tB agg ks (.v z) k es) fun r=>K r h n)else none)=some r->fI C n h lim s (.lookup agg ks (.v z) ok) [w,B] K r:=by
   intro es es' he f hk;cases hcl:dY 2 k with
   |false=>rw[hcl]at hk;exact aE hk
   |true=>
   rw[hcl,wZ2]at hk;have b:=Ge h3 hcl;cases ok with
   |true=>
    simp only[wZ2,cH,wH2,pB]at hk;obtain⟨q,d,hk⟩:=hk;split at d;rename_i c;simp only[wM2]at d;obtain⟨o,p,rfl⟩:=d;obtain⟨o',i,u⟩:=zC b he p;rcases u with⟨rfl,rfl⟩|⟨j,x,y,rfl,rfl,hxy⟩
    refine bX g (y:=.tup [.v z,.v (.bool false)]) ?_ ?_ hk;simp[doOp,oG b c,f,i];exact .tup rfl (LR.cons (.cl (.v z)) (.cons (.cl (.v _)) .nil)).2;refine bX g (y:=.tup [y,.v (.bool true)]) ?_ ?_ hk;simp[doOp,oG b c,f,i];exact .tup rfl (LR.cons (.cl hxy) (.cons (.cl (.v _)) .nil)).2;cases d
   |false=>
    simp only[xO2,cH,wH2,tB]at hk;obtain⟨q,d,hk⟩:=hk;split at d;rename_i c;simp only[wM2]at d;obtain⟨o,p,rfl⟩:=d;obtain⟨o',i,u⟩:=zC b he p;rcases u with⟨rfl,rfl⟩|⟨j,x,y,rfl,rfl,hxy⟩
    refine bX g (y:=.v z) ?_ (.cl (.v z)) hk;simp[doOp,oG b c,f,i];refine bX g (y:=y) ?_ (.cl hxy) hk;simp[doOp,oG b c,f,i];cases d
  unfold eC at hk;simp only at hk;cases m with
  |im es=>
   obtain⟨es',rfl,he⟩:=oL1 h1;exact key es es' he rfl hk
  |map j=>
   simp only[fS,wH2]at hk;obtain⟨ob,hg,hk⟩:=hk;cases ob with
   |mp es=>
    obtain⟨id,ver,e,len,l,rfl⟩:=wS h1;obtain⟨_,es',f,he⟩:=Ls g hg l;exact key es es' he.er (by simp[Sim.entsOf,f]) hk
   |_=>exact aE hk
  |zm es=>
   rcases oM1 h1 with⟨id,es',rfl,l,he⟩|⟨rfl,rfl⟩
   exact key es es' he.er (by simp[Sim.entsOf,(g.hr.zr id _ l).1]) hk;exact key [] [] ⟨rfl,fun j x y a=>by simp at a⟩ rfl hk
  |_=>exact aE hk
 |_=>subst hz;exact aE hk
 exact aE hk
theorem oO1 {x:PV} {y:AV} (h:RV C x y) (hp:Pu x=true):RK x y:=by
 cases x with
 |agg cs=>
  obtain⟨cs',rfl,hl⟩:=nT h;exact .inr ⟨cs,cs',rfl,rfl,hl.plain hp⟩
 |_=>exact .inl (h.plain hp)
theorem aY1 {agg:Bool} {ks:aA CK} (D:cY C n h lim s) (N:LR (RV C) xs ys) (hk:eC (.mapup agg ks) xs h n K=some r):fI C n h lim s (.mapup agg ks) ys K r:=by
 rcases xs with _|⟨m,_|⟨k,_|⟨x,_|⟨x2,t⟩⟩⟩⟩
 exact aE hk;exact aE hk;exact aE hk;obtain⟨S,_,rfl,h1,h2⟩:=N.inv_cons;obtain⟨w,_,rfl,h3,h4⟩:=h2.inv_cons;obtain⟨y,_,rfl,h5,J⟩:=h4.inv_cons;rw[J.inv_nil];cases m with
 |map j=>
  have hk:hK h j (fun ob=>match ob with
   |.mp es=>bif Pu k&&Pu x then cQ (Bl agg ks k x es) fun es=>iM h j (.mp es) fun h=>K .undef h n else none
   |_=>none)=some r:=hk
  simp only[fS,wH2]at hk;obtain⟨ob,hg,hk⟩:=hk;cases ob with
  |mp es=>
   by_cases g:(Pu k&&Pu x)=true;simp only[g,wZ2,cH,wH2,Bl]at hk;simp only[wL2]at g;obtain⟨d,hp,hk⟩:=hk;have H:=eQ _ _ _ _ _ hk;obtain⟨id,ver,e,len,z,rfl⟩:=wS h1;obtain⟨f,es',B,he⟩:=Ls D hg z;have F:=(D.hr.lt (by rw[hg];simp) z).2;have G:=oO1 h3 g.1;have O:=oO1 h5 g.2;have q:=G.rc;split at hp;rename_i u;simp only[wM2]at hp;obtain⟨o,M,rfl⟩:=hp;obtain⟨o',q1,q2⟩:=zC q he.er M
   have fin:∀(d:aA (PV×PV)) (c:aA (AV×AV)),EM d c->K .undef (fR h j (.mp d)) n=some r->doOp (Sim.look s.h) lim s.n (.mapup agg ks) [.map id,w,y]=some {v:=.undef,up:=some (id,.map c)}->fI C n h lim s (.mapup agg ks) [.map id,w,y] K r:=by
    intro d c E A hd;obtain⟨P,R⟩:=tE D (po':=.mp d) (ao:=.map c) hg z ⟨f,F,c,by rw[Sim.look_upd];simp[B],E⟩ rfl;exact⟨_,_,_,_,_,A,hd,.undef,P,.refl _,wK2 _,R,fun L=>by cases L⟩
   rcases q2 with⟨rfl,rfl⟩|⟨i,x0,y0,rfl,rfl,hxy⟩
   refine fin _ (es'++[(w,y)]) ⟨by simp[he.1],fun i a b p hb=>?_⟩ H ?_;rw[yL2]at p hb;rw[<-he.1]at hb;split at p;rename_i hi;rw[wO2 hi]at hb;exact he.2 i a b p hb
   grind
   simp only[doOp,B];rw[wO2 ⟨f,oG q u⟩,q1];refine fin _ (es'.set i (w,y)) ⟨by simp[he.1],fun l a b p hb=>?_⟩ H ?_;rw[xH2]at p hb;split at p
   grind
   rename_i hi;rw[wN2 hi]at hb;exact he.2 l a b p hb;simp only[doOp,B];rw[wO2 ⟨f,oG q u⟩,q1];cases hp
   grind
  |_=>exact aE hk
 |_=>exact aE hk
 exact aE hk
theorem rO1 {kd:Nat} (a:cY C n h lim s) (i:LR (RV C) xs ys) (hk:eC (.len kd) xs h n K=some r):fI C n h lim s (.len kd) ys K r:=by
 rcases xs with _|⟨x,_|⟨x2,t⟩⟩
 exact aE hk;obtain⟨y,_,rfl,h1,h2⟩:=i.inv_cons;rw[h2.inv_nil];unfold eC at hk;simp only[bZ]at hk;split at hk;rename_i e rows;by_cases c:kd=0;subst c;simp only[yO2,wZ2,cH,wJ2]at hk;rcases Sy h1 with⟨rows',rfl,hr⟩|⟨rfl,rfl|rfl⟩
 exact bX a (by simp[doOp,<-hr.1]) (.cl (.v _)) hk;exact bX a rfl (.cl (.v _)) hk;exact bX a rfl (.cl (.v _)) hk
 grind
 rename_i k;by_cases c:kd=0;subst c;simp only[yO2,wZ2,fS,wH2]at hk;obtain⟨ob,hg,hk⟩:=hk;cases ob with
 |lst ty e g rows=>
  simp only[cH,wJ2]at hk;rcases jP h1 with⟨id,ver,f,len,b,rfl⟩|⟨b,hy⟩
  obtain⟨_,_,hlen,_⟩:=kJ a hg b;subst hlen;exact bX a rfl (.cl (.v _)) hk;have:=lX a hg b;subst this;rcases hy with rfl|rfl;exact bX a rfl (.cl (.v _)) hk;exact bX a rfl (.cl (.v _)) hk
 |lz ty e dp rows=>
  simp only[cH,wJ2]at hk;rcases jP h1 with⟨id,ver,f,len,b,rfl⟩|⟨b,hy⟩
  obtain⟨_,_,_,hlen,_⟩:=yJ a hg b;subst hlen;exact bX a rfl (.cl (.v _)) hk;have:=wU a hg b;subst this;rcases hy with rfl|rfl;exact bX a rfl (.cl (.v _)) hk;exact bX a rfl (.cl (.v _)) hk
 |fl fs=>
  rcases jP h1 with⟨id,ver,f,len,b,rfl⟩|⟨b,hy⟩
  obtain⟨_,_,hlen,_⟩:=aR1 a hg b;subst hlen;exact bX a rfl (.cl (.v _)) hk;exact(aS1 a hg b).elim
 |_=>exact aE hk
 grind
 rename_i d e rows;by_cases c:kd=0;subst c;simp only[yO2,wZ2,cH,wJ2]at hk;rcases Ga (Fz h1)with(⟨rows',rfl,hr⟩|⟨rfl,rfl⟩)|⟨d',id,ver,ty,els,_,rfl,_,_,_⟩
 exact bX a (by simp[doOp,<-hr.1]) (.cl (.v _)) hk;exact bX a rfl (.cl (.v _)) hk;exact bX a rfl (.cl (.v _)) hk
 grind
 by_cases c:kd=0;subst c;rw[gG h1];exact bX a rfl (.cl (.v _)) hk
 grind
 by_cases c:kd=1;subst c;rw[gG h1];exact bX a rfl (.cl (.v _)) hk
 grind
 exact aE hk;exact aE hk
theorem rP1 {i:Nat} (b:cY C n h lim s) (d:LR (RV C) xs ys) (hk:eC (.ext i) xs h n K=some r):fI C n h lim s (.ext i) ys K r:=by
 rcases xs with _|⟨x,_|⟨x2,t⟩⟩
 exact aE hk;obtain⟨y,_,rfl,h1,h2⟩:=d.inv_cons;rw[h2.inv_nil];cases x with
 |tup vs=>
  have hk:iL i vs (fun vs=>match vs with
   |v::_=>K v h n
   |[]=>none)=some r:=hk
  obtain⟨e,a⟩:=eP _ _ _ _ hk;obtain⟨cs',rfl,hl⟩:=Pz h1;cases hd:vs.drop i with
  |nil=>rw[hd]at a;exact aE a
  |cons c t=>
   rw[hd]at a;obtain⟨y,hy,hv⟩:=hl.get (wT hd);exact bX b (by simp[doOp,hy]) hv a
 |_=>exact aE hk
 exact aE hk
end
end Go.P
namespace Go.P
open Go.Sim (AV AO Hp gP upd St IC IX Ex fC CK Wf Out doOp)
theorem vB {α:Type}:∀(l:aA α) (o:Nat) (cs:aA α),o+cs.length<=l.length->Sim.setL l o cs=l.take o++cs++l.drop (o+cs.length)
 |[],o,cs,h=>by
  have h1:cs=[]:=by
   cases cs with
   |nil=>rfl
   |cons a as=>simp at h
  subst h1;simp[Sim.setL]
 |a::l,0,[],h=>by simp[Sim.setL]
 |a::l,0,c::cs,h=>by
  simp only[Sim.setL,List.set_cons_zero];rw[oF,vB l 0 cs (by simp at h ⊢;omega)];simp
 |a::l,o+1,cs,h=>by
  rw[oF,vB l o cs (by simp at h ⊢;omega)];simp[Nat.add_right_comm]
theorem wV (e:Nat):∀(m i:Nat) (cells xs:aA AV) (a:aA (aA AV)),cells.length=(i+m)*e->xs.length=m->a.length=m->
  (∀(j:Nat) (x:AV),xs[j]? =some x->∃cs,x.cells=some cs/\cs.length=e/\a[j]? =some cs)->
  Sim.fillParts cells ((List.range' i m).map fun i=>(i*e,e)) xs=some (cells.take (i*e)++a.flatten)
 |0,i,cells,xs,a,h1,h2,h3,h4=>by
  have g:xs=[]:=by simpa using h2
  have e2:a=[]:=by simpa using h3
  subst g;subst e2
  simp only[List.range'_zero,aH3,Sim.fillParts,List.flatten_nil,zP2]
  rw[xS2 (by rw[h1];simp)]
 |m+1,i,cells,xs,a,h1,h2,h3,h4=>by
  match xs,a,h2,h3 with
  |x::xs,cs0::a,h2,h3=>
   obtain⟨cs,k,d,f⟩:=h4 0 x rfl
   simp at f
   subst f
   simp only[List.range'_succ,yY2,Sim.fillParts,k]
   have b:i*e+e<=cells.length:=by
    rw[h1];have:(i+1)*e<=(i+(m+1))*e:=xK2 _ (by omega);rw[yT2,Nat.one_mul]at this;exact this
   rw[wO2 ⟨d,b⟩];have hs:=vB cells (i*e) cs0 (by rw[d];exact b)
   have hlen:(Sim.setL cells (i*e) cs0).length=cells.length:=by
    rw[hs];simp[d];omega
   rw[wV e m (i+1) _ xs a (by rw[hlen,h1];congr 1;omega) (by simpa using h2) (by simpa using h3) (fun j x h=>by
    obtain⟨c,q1,q2,q3⟩:=h4 (j+1) x (by simpa using h);exact⟨c,q1,q2,by simpa using q3⟩)]
   congr 1;rw[hs,aE3,<-List.append_assoc];congr 1
   have hl:(cells.take (i*e)++cs0).length=(i+1)*e:=by
    simp[d,yT2];omega
   rw[List.take_append_of_le_length (by rw[hl];exact wK2 _),xS2 (by rw[hl];exact wK2 _)]
theorem aZ1 (e:Nat):∀(a:aA (aA AV)),(∀c∈a,c.length=e)->(List.range a.length).map (fun i=>(a.flatten.drop (i*e)).take e)=a
 |[],_=>rfl
 |c::a,h=>by
  have hc:=h c (by simp)
  have ih:=aZ1 e a (fun c hc=>h c (by simp[hc]))
  rw[xR2,List.range_succ_eq_map,yY2,List.map_map]
  simp only[aG3,yH2,aE3]
  rw[List.take_append_of_le_length (by omega),xS2 (by omega)]
  congr 1
  refine Eq.trans (List.map_congr_left fun i _=>?_) ih
  simp only[Function.comp]
  rw[xZ2,zE2,<-hc,<-zL2,List.drop_left]
theorem Bz (l:aA AV):∀(m:aA Nat),(m.flatMap fun _=>l).length=m.length*l.length
 |[]=>by simp
 |a::m=>by
  rw[zF2,xD2,Bz l m,xR2,xZ2,zE2]
section
variable {R:Type} {C:Cx} {n:Nat} {h:bC} {lim:Nat} {s:Hp} {k:fC} {xs:List PV} {ys:List AV} {K:PV->bC->Nat->Option R} {r:R}
theorem bA1 (a b:Nat):a<=(bif Nat.blt a b then b else a)/\b<=(bif Nat.blt a b then b else a):=by
 by_cases h:a<b;have hb:Nat.blt a b=true:=by simpa using h
 rw[hb];simp only[wZ2];omega;have hb:Nat.blt a b=false:=by cases hb:Nat.blt a b with|false=>rfl|true=>exact absurd (by simpa using hb) h
 rw[hb];simp only[xO2];omega
theorem bB1 {x:PV} {y:AV} {d:Nat} {b:PV} (h:RV C x y) (hc:aK1 x=some (d,b)):RZ C.z d b y:=by
 have pl:∀{x:PV},RV C x y->gC x=true->RC true x y:=fun a hp=>by
  have:=(LR.cons a .nil).plain (xs:=[_]) (by simpa using hp);exact this.head
 unfold aK1 at hc;split at hc;cases hc;exact Fz h;rename_i a;cases hp:gC x with
 |true=>rw[hp]at hc;cases hc;exact RZ.of (pl h hp)
 |false=>rw[hp]at hc;cases hc
theorem Gf:∀{cs:aA PV} {cs':aA AV} {d:Nat} {ys:aA PV},LR (RV C) cs cs'->Bm cs=some (d,ys)->LR (RZ C.z d) ys cs'
 |[],cs',d,ys,h,hc=>by
  rw[h.inv_nil];cases hc;exact .nil
 |x::xs,cs',d,ys,h,hc=>by
  obtain⟨y,e,rfl,h1,h2⟩:=h.inv_cons
  unfold Bm at hc
  split at hc
  rename_i a f b xs' c e2
  cases hc
  have m:=bA1 a b
  exact .cons (RZ.up m.1 (bB1 h1 c)) ((Gf h2 e2).mono fun _ _ h=>RZ.up m.2 h)
  cases hc
theorem wG1 {R:Type} (d:Nat) (K:Nat->aB R):fD d K=K d:=by
 unfold fD;split<;>rfl
theorem yK (e:Nat):∀(xs:aA PV) (K:Nat->aA (aA PV)->aB R) (r:R),Bn e xs K=some r->∃dp rows,K dp rows=some r/\rows.length=xs.length/\
  ∀(j:Nat) (x:PV),xs[j]? =some x->∃cs,fB x=some cs/\∃d ys,Bm cs=some (d,ys)/\ys.length=e/\d<=dp/\rows[j]? =some ys
 |[],K,r,h=>⟨0,[],h,rfl,fun j x a=>by simp at a⟩
 |x::xs,K,r,h=>by
  simp only[Bn,mF,wG1,wH2]at h
  obtain⟨cs,h1,h2⟩:=h
  split at h2
  rename_i d ys f
  cases hb:Nat.beq ys.length e with
  |false=>rw[hb]at h2;cases h2
  |true=>
   rw[hb,wZ2]at h2
   obtain⟨dp,rows,g,i,k⟩:=yK e xs _ r h2
   have m:=bA1 d dp
   refine⟨_,_,g,by simp[i],fun j l a=>?_⟩
   cases j with
   |zero=>simp at a;subst a;exact⟨cs,h1,d,ys,f,xB2 hb,m.1,rfl⟩
   |succ j=>
    simp at a
    obtain⟨cs',q1,c,b,q2,q3,q4,q5⟩:=k j l a
    exact⟨cs',q1,c,b,q2,q3,xJ2 q4 m.2,by simpa using q5⟩
  cases h2
theorem Qc {ty:TypeId} {e len:Nat} {zero:aA Value} {parts:aA Nat} (J:cY C n h lim s) (o:LR (RV C) xs ys) (hk:eC (.buildSl ty e len zero parts) xs h n K=some r):fI C n h lim s (.buildSl ty e len zero parts) ys K r:=by
 have hk:(bif Vt 0 parts&&(Nat.beq zero.length e&& !(iC ty))then(bif Nat.beq parts.length len then bif xs.all aL1 then uU e xs fun rows=>bif Nat.beq rows.length len then K (.own n) ((n,.lst ty e false rows)::h) (n+1)else none else Bn e xs fun dp rows=>bif Nat.beq rows.length len then K (.own n) ((n,.lz ty e dp rows)::h) (n+1)else none else none)else none)=some r:=by
  rcases xs with _|⟨a,_|⟨b,_|⟨c,t⟩⟩⟩<;>exact hk
 by_cases hc:(Vt 0 parts&&(Nat.beq zero.length e&& !(iC ty)))=true;rw[hc,wZ2]at hk;simp only[wL2,bZ,wS2]at hc hk;obtain⟨c1,c2,p⟩:=hc;have P:Dx ty=ty:=by simp only[xG2]at p;simp[Dx,p]
 have hfx:iC ty=false:=by simpa using p
 by_cases c3:parts.length=len;rw[xX2 c3,wZ2]at hk
 have M:∃(po:fQ) (rows:aA (aA PV)) (Q:PV->AV->Prop),K (.own n) ((n,po)::h) (n+1)=some r/\rows.length=len/\rows.length=xs.length/\
   (∀(j:Nat) (x:PV),xs[j]? =some x->∃cs,fB x=some cs/\∃r,rows[j]? =some r/\r.length=e/\∀cs',LR (RV C) cs cs'->LR Q r cs')/\
   ∀f:aA (aA AV),rows.length=f.length->(∀(i:Nat) (r:aA PV) (r':aA AV),rows[i]? =some r->f[i]? =some r'->LR Q r r')->
    kT (ext C n (.atp s.n 0 e len)) (Sim.look (.ob s.n (.arr false ty e 0 f)::s.h)) lim (s.n+1) po (.atp s.n 0 e len):=by
  cases hpl:xs.all aL1 with
  |true=>
   rw[hpl,wZ2]at hk;obtain⟨rows,m,E,F⟩:=vA e xs _ r hk;by_cases c4:rows.length=len;rw[xX2 c4,wZ2]at m;refine⟨_,rows,RC true,m,c4,E,fun j x o=>?_,fun f hl u=>?_⟩;obtain⟨cs,q1,q2,q3,q4⟩:=F j x o;exact⟨cs,q1,cs,q4,q2,fun cs' h=>h.plain q3⟩;exact⟨J.lim,by omega,rfl,c4.symm,f,by rw[eZ,wO2 rfl,P],by rw[xS2 (by rw[hl];exact wK2 _)];exact⟨hl,u⟩,by rw[hl];exact wK2 _,fun _=>hl.symm⟩;rw[yC2 c4]at m;exact aE m
  |false=>
   rw[hpl,xO2]at hk;obtain⟨dp,rows,m,E,F⟩:=yK e xs _ r hk;by_cases c4:rows.length=len;rw[xX2 c4,wZ2]at m;refine⟨_,rows,RZ C.z dp,m,c4,E,fun j x o=>?_,fun f hl u=>?_⟩;obtain⟨cs,q1,d,T,q2,q3,q4,q5⟩:=F j x o;exact⟨cs,q1,T,q5,q3,fun cs' h=>(Gf h q2).mono fun _ _ h=>RZ.up q4 h⟩;exact⟨J.lim,by omega,rfl,c4.symm,hfx,f,by rw[eZ,wO2 rfl],hl,u⟩;rw[yC2 c4]at m;exact aE m
 obtain⟨po,rows,Q,m,c4,E,F,R⟩:=M;have hp:=Fx 0 parts c1;rw[c3]at hp;subst hp
 have D:∀(j:Nat) (x:AV),ys[j]? =some x->∃cs,x.cells=some cs/\cs.length=e/\∃r,rows[j]? =some r/\LR Q r cs:=by
  intro j y hy;have A:j<xs.length:=by rw[o.1];exact(wI2.1 hy).1
  obtain⟨cs,q1,G,q2,q3,q4⟩:=F j xs[j] (by simp);obtain⟨cs',p1,p2⟩:=qX (o.2 j xs[j] y (by simp) hy) q1;have:=q4 cs' p2;exact⟨cs',p1,by rw[<-this.1];exact q3,G,q2,this⟩
 have q:∃f:aA (aA AV),f.length=ys.length/\∀(j:Nat) (x:AV),ys[j]? =some x->∃cs,x.cells=some cs/\cs.length=e/\f[j]? =some cs/\∃r,rows[j]? =some r/\LR Q r cs:=by
  refine⟨ys.map fun y=>(y.cells).getD [],by simp,fun j y hy=>?_⟩;obtain⟨cs,p1,p2,p3⟩:=D j y hy;exact⟨cs,p1,p2,by simp[hy,p1],p3⟩
 obtain⟨f,H,S⟩:=q;have g:ys.length=len:=by rw[<-o.1,<-E,c4]
 have V:(Sim.zeroRow zero).length=e:=by simp[Sim.zeroRow,c2]
 have L:((List.range len).flatMap fun _=>Sim.zeroRow zero).length=len*e:=by
  rw[Bz,V,List.length_range]
 have l:=wV e len 0 ((List.range len).flatMap fun _=>Sim.zeroRow zero) ys f (by rw[L];simp) g (by rw[H,g]) (fun j x o=>by
  obtain⟨cs,p1,p2,p3,_⟩:=S j x o;exact⟨cs,p1,p2,p3⟩)
 simp only[aG3,List.take_zero,aB3]at l
 have w:∀c∈f,c.length=e:=by
  intro c hc;obtain⟨j,U⟩:=xE2.1 hc;have A:j<ys.length:=by rw[<-H];exact(wI2.1 U).1
  obtain⟨cs,p1,p2,p3,_⟩:=S j ys[j] (by simp);rw[U]at p3;cases p3;exact p2
 have k:=aZ1 e f w;rw[H,g]at k
 have u:∀(j:Nat) (G:aA PV) (r1:aA AV),rows[j]? =some G->f[j]? =some r1->LR Q G r1:=by
  intro j G r1 O B;have A:j<ys.length:=by rw[<-H];exact(wI2.1 B).1
  obtain⟨cs,p1,p2,p3,r2,p4,p5⟩:=S j ys[j] (by simp);rw[B]at p3;cases p3;rw[O]at p4;cases p4;exact p5
 have N:=lL J (.atp s.n 0 e len);obtain⟨W,X,Y⟩:=qY J (po:=po) (ao:=.arr false ty e 0 f) (ver:=0) (e:=e) (len:=len) (R f (by rw[c4,H,g]) u);refine⟨_,_,_,_,{v:=.sl e s.n 0 0 len none,new:=some (.arr false ty e 0 f)},m,?_,.own (nU C n _),W,N,by omega,X,fun _=>Y⟩
 have:doOp (Sim.look s.h) lim s.n (.buildSl ty e len zero (List.range' 0 len)) ys=(Sim.fillParts ((List.range len).flatMap fun _=>Sim.zeroRow zero) ((List.range' 0 len).map fun i=>(i*e,e)) ys).map fun cs=>
  {v:=.sl e s.n 0 0 len none,new:=some (.arr false ty e 0 ((List.range len).map fun i=>(cs.drop (i*e)).take e))}:=by
  rcases ys with _|⟨a,_|⟨b,_|⟨c,t⟩⟩⟩<;>rfl
 rw[this,l];simp only[xP2];rw[k];rw[yC2 c3]at hk;exact aE hk;simp only[Bool.not_eq_true]at hc;rw[hc]at hk;exact aE hk
theorem Ca {i:Int}:∀{m:Nat} {K:Nat->aB R} {r:R},Lm i m K=some r->∃j,j<m/\i=(j:Int)/\K j=some r
 |0,K,r,h=>by unfold Lm at h;exact aE h
 |m+1,K,r,h=>by
  unfold Lm at h
  rw[oZ]at h
  split at h
  rename_i e;exact⟨m,by omega,by simpa using e,h⟩
  obtain⟨j,h1,h2,h3⟩:=Ca h;exact⟨j,by omega,h2,h3⟩
theorem hV1 {len esz:Nat} (f:cY C n h lim s) (g:LR (RV C) xs ys) (hk:eC (.iadA len esz) xs h n K=some r):fI C n h lim s (.iadA len esz) ys K r:=by
 rcases xs with _|⟨p,_|⟨i,_|⟨x2,t⟩⟩⟩
 exact aE hk;exact aE hk;obtain⟨m,_,rfl,h1,h2⟩:=g.inv_cons;obtain⟨q,_,rfl,h3,h4⟩:=h2.inv_cons;rw[h4.inv_nil];unfold eC at hk;simp only at hk;split at hk;rename_i i;split at hk;rename_i k o;obtain⟨j,l,a,b⟩:=Ca hk;clear hk;subst a;rw[gG h3];obtain⟨id,ver,e,c,d,rfl⟩:=lM h1;refine bX (v:=.ref k (o+j*esz)) (y:=.ptr id ver 0 (o+j*esz)) f ?_ (.ref d) b;simp only[doOp,Sim.intOf];rw[wO2 ⟨by omega,by omega⟩];simp;exact aE hk;exact aE hk;exact aE hk
theorem Lv (g:cY C n h lim s) (j:LR (RV C) xs ys) (hk:eC k xs h n K=some r):fI C n h lim s k ys K r:=by
 cases k with
 |mov=>exact rF1 g j hk
 |nilc=>exact hR1 g j hk
 |box ty size=>exact rG1 g j hk
 |alloc ty zero=>exact aP1 g j hk
 |build zero parts=>exact aQ1 g j hk
 |buildSl ty e len zero parts=>exact Qc g j hk
 |loadS=>exact aT1 g j hk
 |loadA m=>exact aU1 g j hk
 |store m=>exact aV1 g j hk
 |fad off=>exact rH1 g j hk
 |iad e=>exact rI1 g j hk
 |iadA len esz=>exact hV1 g j hk
 |idxStr=>exact Vz g j hk
 |idxA len e agg=>exact hS1 g j hk
 |bin op=>exact rJ1 g j hk
 |eqB neg=>exact rK1 g j hk
 |eqA neg ks=>exact rL1 g j hk
 |un op=>exact wF1 g j hk
 |convI k=>exact aW1 g j hk
 |s2b t=>exact rM1 g j hk
 |mkfn f m=>exact hT1 g j hk
 |mkmap=>exact aX1 g j hk
 |mksl ty e b zero=>exact hU1 g j hk
 |slc e lo hi mx=>exact rN1 g j hk
 |lookup agg ks zero ok=>exact Wb g j hk
 |mapup agg ks=>exact aY1 g j hk
 |len kd=>exact rO1 g j hk
 |ext i=>exact rP1 g j hk
 |_=>rcases xs with _|⟨a,_|⟨b,_|⟨c,_|⟨d,t⟩⟩⟩⟩<;>exact aE hk
end
end Go.P
namespace Go.P
open Go.Sim (AV AO Hp gP upd St IC IX Ex fC CK Wf Out doOp jA Foot foot exec runOps dX wanted put gX)
def jQ:fC->Bool
 |.callF _|.callV=>true
 |_=>false
def mW (N:FuncId->Bool) (dr:Nat):fC->Nat
 |.len kd=>bif Nat.beq kd 2 then 1 else 0
 |.loadS|.loadA _|.lookup .. |.slc .. |.b2s=>1
 |.box .. |.alloc .. |.buildSl .. |.mkmap|.mksl .. =>2
 |.callF f=>if N f then 4 else 3
 |.callV=>if dr=4 then 4 else 3
 |.store _|.mapup .. |.append .. |.copy _|.clear .. =>5
 |_=>0
inductive Tr (T:jA) (N:FuncId->Bool) (dr:Nat) (lim:Nat):List Sim.Op1->St->List Foot->St->Prop
 |nil {σ:St}:Tr T N dr lim [] σ [] σ
 |skip {o:Sim.Op1} {os:List Sim.Op1} {σ τ:St} {fs:List Foot} (hw:wanted σ.t o.guard=false) (h:Tr T N dr lim os {t:=put σ.t o.dst .undef,s:=σ.s} fs τ):Tr T N dr lim (o::os) σ ({}::fs) τ
 |op {o:Sim.Op1} {os:List Sim.Op1} {σ τ:St} {fs:List Foot} {xs:List AV} {out:Out} (hw:wanted σ.t o.guard=true) (he:Sim.evs σ.t o.xs=some xs) (hc:jQ o.k=false)
   (hd:doOp (Sim.look σ.s.h) lim σ.s.n o.k xs=some out) (h:Tr T N dr lim os {t:=put σ.t o.dst out.v,s:=out.apply σ.s} fs τ):
   Tr T N dr lim (o::os) σ ({foot T o.k xs with al:=List.range' σ.s.n ((out.apply σ.s).n-σ.s.n)}::fs) τ
 |call {o:Sim.Op1} {os:List Sim.Op1} {σ τ:St} {fs:List Foot} {xs:List AV} {v:AV} (hw:wanted σ.t o.guard=true) (he:Sim.evs σ.t o.xs=some xs) (hc:jQ o.k=true) (hk:3<=mW N dr o.k) (hf:foot T o.k xs={all:=1})
   (hs:∃D,∀d,D<=d->∀m,Sim.step T (exec T d) lim o.k xs {h:=σ.s.h,n:=m}=some (v,{h:=σ.s.h,n:=m})) (h:Tr T N dr lim os {t:=put σ.t o.dst v,s:=σ.s} fs τ):
   Tr T N dr lim (o::os) σ ({all:=1}::fs) τ
 |ncall {o:Sim.Op1} {os:List Sim.Op1} {σ τ:St} {fs:List Foot} {xs:List AV} {v:AV} {s':Hp} (hw:wanted σ.t o.guard=true) (he:Sim.evs σ.t o.xs=some xs) (hf:(foot T o.k xs).all=2) (hk:dr≠0->mW N dr o.k=4)
   (hs:∃D,∀d,D<=d->Sim.step T (exec T d) lim o.k xs σ.s=some (v,s')) (h:Tr T N dr lim os {t:=put σ.t o.dst v,s:=s'} fs τ):
   Tr T N dr lim (o::os) σ ({foot T o.k xs with al:=List.range' σ.s.n (s'.n-σ.s.n)}::fs) τ
section
variable {T:jA} {N:FuncId->Bool} {dr lim:Nat}
theorem Tr.append {as a:aA Sim.Op1} {σ τ υ:St} {fs b:aA Foot} (h:Tr T N dr lim as σ fs τ) (k:Tr T N dr lim a τ b υ):Tr T N dr lim (as++a) σ (fs++b) υ:=by
 induction h with
 |nil=>exact k
 |skip hw h ih=>exact .skip hw (ih k)
 |op hw he hc hd h ih=>exact .op hw he hc hd (ih k)
 |call hw he hc hk hf hs h ih=>exact .call hw he hc hk hf hs (ih k)
 |ncall hw he hf hk hs h ih=>exact .ncall hw he hf hk hs (ih k)
theorem Sz {ex:Nat->Bool->IC->St->aB (Ex×St)} {k:fC} {xs:aA AV} {s:Hp} {out:Out} (hc:jQ k=false) (hd:doOp (Sim.look s.h) lim s.n k xs=some out):Sim.step T ex lim k xs s=some (out.v,out.apply s):=by
 unfold Sim.step;split;simp[jQ]at hc;simp[jQ]at hc;rw[hd]
theorem Tr.run {os:aA Sim.Op1} {σ τ:St} {fs:aA Foot} (h:Tr T N dr lim os σ fs τ):∃D,∀d,D<=d->runOps T (exec T d) lim os σ=some τ:=by
 induction h with
 |nil=>exact⟨0,fun d _=>rfl⟩
 |skip hw h ih=>
  obtain⟨D,a⟩:=ih;refine⟨D,fun d hd=>?_⟩;simp only[runOps,hw];exact a d hd
 |op hw he hc hd h ih=>
  obtain⟨D,a⟩:=ih;refine⟨D,fun d c=>?_⟩;simp only[runOps,hw,xM2,he,Sz hc hd];exact a d c
 |@ncall o os σ τ fs xs v s' hw he hf hk hs h ih=>
  obtain⟨D,a⟩:=ih;obtain⟨D2,b⟩:=hs;refine⟨max D D2,fun d hd=>?_⟩;simp only[runOps,hw,xM2,he,b d (by omega)];exact a d (by omega)
 |@call o os σ τ fs xs v hw he hc hk hf hs h ih=>
  obtain⟨D,a⟩:=ih;obtain⟨D2,b⟩:=hs;refine⟨max D D2,fun d hd=>?_⟩;simp only[runOps,hw,xM2,he];have:=b d (by omega) σ.s.n;rw[show({h:=σ.s.h,n:=σ.s.n}:Hp)=σ.s from rfl]at this;rw[this];exact a d (by omega)
def nV (c:Nat) (f:Foot):Prop:=
 f={}\/match c with
  |0=>f={}
  |1=>f.wr=[]/\f.al=[]/\f.all=0
  |2=>f.rd=[]/\f.wr=[]/\f.all=0
  |3=>f={all:=1}
  |5=>f.all=0
  |_=>True
def gH (i j:Nat):Bool:=
 bif Nat.beq i 0 then !Nat.beq j 4 else bif Nat.beq j 0 then !Nat.beq i 4 else
  (Nat.ble i 3&&Nat.ble j 3&& !(Nat.beq i 3&&Nat.beq j 3)&& !(Nat.beq i 2&&(Nat.beq j 3||Nat.beq j 1)))||(Nat.beq i 5&&Nat.beq j 2)
def lN (i j:Nat):Bool:=Nat.beq i 0||Nat.beq j 0||gH i j
theorem Qd {i j:Nat} {f g:Foot} (hi:i<=5) (b:j<=5) (h:gH i j=true) (hf:nV i f) (hg:nV j g):Sim.compat0 f g=true:=by
 unfold nV at hf hg;have k:∀g:Foot,g.all<=1->Sim.compat0 {} g=true:=fun g hg=>by simp[Sim.compat0,hg]
 have d:∀f:Foot,f.all<=1->Sim.compat0 f {}=true:=fun f hf=>by simp[Sim.compat0,hf]
 have e:i≠4:=by rintro rfl;(match j,b,h with|0,_,h|1,_,h|2,_,h|3,_,h|4,_,h|5,_,h=>simp[gH]at h)
 have a:j≠4:=by rintro rfl;(match i,hi,h with|0,_,h|1,_,h|2,_,h|3,_,h|4,_,h|5,_,h=>simp[gH]at h)
 have a1:∀{c:Nat} {f:Foot},c<=5->c≠4->(f={}\/match c with
  |0=>f={}
  |1=>f.wr=[]/\f.al=[]/\f.all=0
  |2=>f.rd=[]/\f.wr=[]/\f.all=0
  |3=>f={all:=1}
  |5=>f.all=0
  |_=>True)->f.all<=1:=by grind
 have b1:=a1 hi e hf;have b2:=a1 b a hg;rcases hf with rfl|hf;exact k g b2;rcases hg with rfl|hg;exact d f b1
 have fin:f.wr=[]->g.wr=[]->f.al=[]\/(g.rd=[])->f.all+g.all<=1->Sim.compat0 f g=true:=by
  intro q1 q2 q3 q4;rcases q3 with q3|q3<;>simp[Sim.compat0,q1,q2,q3,q4]
 match i,hi,e,h,hf with
 |0,_,_,_,hf=>rw[hf];exact k g b2
 |1,_,_,h,hf=>
  obtain⟨p1,p2,p3⟩:=hf
  match j,b,a,h,hg with
  |0,_,_,_,hg=>rw[hg];exact d f b1
  |1,_,_,_,hg=>exact fin p1 hg.1 (.inl p2) (by rw[p3,hg.2.2];simp)
  |2,_,_,_,hg=>exact fin p1 hg.2.1 (.inl p2) (by rw[p3,hg.2.2];simp)
  |3,_,_,_,hg=>exact fin p1 (by rw[hg]) (.inl p2) (by rw[p3,hg];simp)
  |4,_,h4,_,_=>exact absurd rfl h4
  |5,_,_,h,_=>simp[gH]at h
 |2,_,_,h,hf=>
  obtain⟨p1,p2,p3⟩:=hf
  match j,b,a,h,hg with
  |0,_,_,_,hg=>rw[hg];exact d f b1
  |1,_,_,h,_=>simp[gH]at h
  |2,_,_,_,hg=>exact fin p2 hg.2.1 (.inr hg.1) (by rw[p3,hg.2.2];simp)
  |3,_,_,h,_=>simp[gH]at h
  |4,_,h4,_,_=>exact absurd rfl h4
  |5,_,_,h,_=>simp[gH]at h
 |3,_,_,h,hf=>
  match j,b,a,h,hg with
  |0,_,_,_,hg=>rw[hg];exact d f b1
  |1,_,_,_,hg=>exact fin (by rw[hf]) hg.1 (.inl (by rw[hf])) (by rw[hf,hg.2.2];simp)
  |2,_,_,_,hg=>exact fin (by rw[hf]) hg.2.1 (.inl (by rw[hf])) (by rw[hf,hg.2.2];simp)
  |3,_,_,h,_=>simp[gH]at h
  |4,_,h4,_,_=>exact absurd rfl h4
  |5,_,_,h,_=>simp[gH]at h
 |4,_,h1,_,_=>exact absurd rfl h1
 |5,_,_,h,hf=>
  match j,b,a,h,hg with
  |0,_,_,_,hg=>rw[hg];exact d f b1
  |1,_,_,h,_=>simp[gH]at h
  |2,_,_,_,hg=>
   obtain⟨p1,p2,p3⟩:=hg;have hf:f.all=0:=hf;simp[Sim.compat0,p1,p2,p3,hf]
  |3,_,_,h,_=>simp[gH]at h
  |4,_,h4,_,_=>exact absurd rfl h4
  |5,_,_,h,_=>simp[gH]at h
theorem Gg {i j:Nat} {f g:Foot} (hi:i<=5) (a:j<=5) (h:lN i j=true) (hf:nV i f) (hg:nV j g):Sim.compat f g=true:=by
 simp only[lN,wY2]at h;rcases h with(h|h)|h;have:=xB2 h;subst this;rcases hf with rfl|hf;rfl;have hf:f={}:=hf;subst hf;rfl;have:=xB2 h;subst this;have hg:g={}:=by rcases hg with hg|hg<;>exact hg
 subst hg;simp[Sim.compat,Sim.Foot.isE];simp[Sim.compat,Qd hi a h hf hg]
theorem qZ (N:FuncId->Bool) (dr:Nat) (k:fC):mW N dr k<=5:=by
 cases k
 case len kd=>simp only[mW];cases Nat.beq kd 2<;>simp
 all_goals simp[mW]<;>split<;>omega
theorem vC {N:FuncId->Bool} {dr:Nat} {k:fC} (h:jQ k=true):mW N dr k=3\/mW N dr k=4:=by
 cases k<;>simp[jQ]at h<;>simp only[mW]<;>split<;>simp
theorem oP1 {L:Nat->aB AO} {n:Nat} {k:fC} {xs:aA AV} {out:Out} (h:doOp L lim n k xs=some out) (hk:mW N dr k<=1):out.new=none:=by
 have hc:∀{o:aB Out} {P:Prop},o=some out->(∀o',o=some o'->o'.new=none)->out.new=none:=fun h1 h2=>h2 _ h1;unfold doOp at h;split at h
 all_goals first|(simp[mW]at hk;done)|(simp only[mW]at hk;split at hk<;>omega)|skip
 all_goals (repeat' split at h)
 all_goals first|(cases h;done)|(cases h;rfl)|(simp only[wM2]at h;obtain⟨_,_,rfl⟩:=h;rfl)|skip
theorem rA {s:Hp} {out:Out} (h:out.new=none):List.range' s.n ((out.apply s).n-s.n)=[]:=by
 unfold Out.apply;rw[h];simp
end
end Go.P
namespace Go.P
open Go.Sim (AV AO Hp gP upd St IC IX Ex fC CK Wf Out doOp jA Foot foot exec runOps dX wanted put gX)
section
variable {T:jA} {N:FuncId->Bool} {dr lim:Nat}
theorem Ta {k:fC} {xs:aA AV} {s:Hp} {out:Out} (hc:jQ k=false) (hd:doOp (Sim.look s.h) lim s.n k xs=some out):
  nV (mW N dr k) {foot T k xs with al:=List.range' s.n ((out.apply s).n-s.n)}:=by
 have d:mW N dr k<=1->List.range' s.n ((out.apply s).n-s.n)=[]:=fun h=>rA (oP1 hd h);cases k
 case len kd=>
  cases hk:Nat.beq kd 2 with
  |true=>
   have hl:=d (by simp[mW,hk]);rw[hl,show mW N dr (.len kd)=1 by simp[mW,hk]];refine .inr ⟨?_,rfl,?_⟩<;>(rcases xs with _|⟨a,_|⟨b,t⟩⟩<;>rfl)
  |false=>
   have h0:=d (by simp[mW,hk]);refine .inl ?_;rw[h0];rcases xs with _|⟨a,_|⟨b,t⟩⟩<;>simp[foot,hk]
 all_goals first|(simp[jQ]at hc;done)|skip
 all_goals first
  |exact .inr trivial
  |(refine .inr ?_;rcases xs with _|⟨a,_|⟨b,_|⟨c,t⟩⟩⟩<;>rfl)
  |(have h0:=d (xA2 1);refine .inl ?_;rw[h0];rfl)
  |(have h0:=d (wK2 1);refine .inr ⟨?_,h0,?_⟩<;>(rcases xs with _|⟨a,_|⟨b,_|⟨c,t⟩⟩⟩<;>rfl))
  |exact .inr ⟨rfl,rfl,rfl⟩
theorem rN {c:Nat} (h:c=3\/c=4) (f:Foot) (hf:f={all:=1}):nV c f:=by
 subst hf;rcases h with rfl|rfl;exact .inr rfl;exact .inr trivial
theorem Tr.feet (a:dr≠0) {os:aA Sim.Op1} {σ τ:St} {fs:aA Foot} (h:Tr T N dr lim os σ fs τ):fs.length=os.length/\∀(i:Nat) (o:Sim.Op1) (f:Foot),os[i]? =some o->fs[i]? =some f->nV (mW N dr o.k) f:=by
 induction h with
 |nil=>exact⟨rfl,fun i o f h=>by simp at h⟩
 |skip hw h ih=>
  refine⟨by simp[ih.1],fun i o f h1 h2=>?_⟩;cases i with
  |zero=>simp at h1 h2;subst h1;subst h2;exact .inl rfl
  |succ i=>simp at h1 h2;exact ih.2 i o f h1 h2
 |op hw he hc hd h ih=>
  refine⟨by simp[ih.1],fun i o f h1 h2=>?_⟩;cases i with
  |zero=>simp at h1 h2;subst h1;subst h2;exact Ta hc hd
  |succ i=>simp at h1 h2;exact ih.2 i o f h1 h2
 |@call o os σ τ fs xs v hw he hc hk hf hs h ih=>
  refine⟨by simp[ih.1],fun i o' f h1 h2=>?_⟩;cases i with
  |zero=>
   simp at h1 h2;subst h1;subst h2;exact rN (vC hc) _ rfl
  |succ i=>simp at h1 h2;exact ih.2 i o' f h1 h2
 |@ncall o os σ τ fs xs v s' hw he hf hk hs h ih=>
  refine⟨by simp[ih.1],fun i o' f h1 h2=>?_⟩;cases i with
  |zero=>
   simp at h1 h2;subst h1;subst h2;rw[hk a];exact .inr trivial
  |succ i=>simp at h1 h2;exact ih.2 i o' f h1 h2
theorem iK {f g:Foot} (h:Sim.compat0 f g=true):Sim.compat f g=true:=by simp[Sim.compat,h]
def Ia (ks before:aA Nat):Bool:=
 (List.range ks.length).all fun j=>(List.range j).all fun i=>(before.getD j 0).testBit i||lN (ks.getD i 4) (ks.getD j 4)
theorem Cb {a:Nat} {ft:Nat->Foot}:∀{j:Nat},(∀i,i<j->a.testBit i=true\/(ft i).al=[])->Sim.unseen a j (gX ft j)=[]
 |0,_=>rfl
 |j+1,h=>by
  simp only[gX,Sim.unseen,zN2]
  rw[Cb (fun i hi=>h i (by omega))]
  rcases h j (by omega)with h1|h1
  rw[wO2 h1];rfl
  rw[h1];simp
theorem vD {a:Nat} {f:Foot} {ft:Nat->Foot}:∀{j:Nat},(∀i,i<j->a.testBit i=true\/Sim.compat (ft i) f=true)->Sim.drawOK.okAgainst a f (gX ft j) j=true
 |0,_=>rfl
 |j+1,h=>by
  simp only[gX,Sim.drawOK.okAgainst,zN2,wL2,wY2]
  exact⟨h j (by omega),vD (fun i hi=>h i (by omega))⟩
theorem wW {before:aA Nat} {ft:Nat->Foot}:∀{m:Nat},(∀j,j<m->∀i,i<j->(before.getD j 0).testBit i=true\/Sim.compat (ft i) (ft j)=true)->Sim.drawOK before (gX ft m) m=true
 |0,_=>rfl
 |m+1,h=>by
  simp only[gX,Sim.drawOK,zN2,wL2]
  exact⟨vD (h m (by omega)),wW (fun j a=>h j (by omega))⟩
theorem bC1 (h:aA gP):Sim.hide [] h=h:=rfl
theorem Tr.foot (B:dr≠0) {before ks:aA Nat}:∀{os:aA Sim.Op1} {σ τ:St} {fs:aA Foot},Tr T N dr lim os σ fs τ->∀(j:Nat) (ft:Nat->Foot),
  (∀(i:Nat),i<fs.length->fs[i]? =some (ft (j+i)))->(∀(i:Nat) (o:Sim.Op1),os[i]? =some o->ks[j+i]? =some (mW N dr o.k))->
  (∀(i l k k':Nat),i<l->ks[i]? =some k->ks[l]? =some k'->k'=3\/k'=4->(before.getD l 0).testBit i=true\/lN k k'=true)->(∀i k,i<j->ks[i]? =some k->nV k (ft i))->(∀i,i<j->∃k,ks[i]? =some k/\k<=5)->
  ∃D,∀d,D<=d->dX T (exec T d) lim before os j (gX ft j) σ=some (τ,gX ft (j+os.length)):=by
 intro os σ τ fs h
 induction h with
 |nil=>intro j ft _ _ _ _ _;exact⟨0,fun d _=>rfl⟩
 |@skip o os σ τ fs hw h ih=>
  intro j ft h1 h2 h3 h4 h5;have f0:ft j={}:=by have:=h1 0 (by simp);simpa using this.symm
  obtain⟨D,m⟩:=ih (j+1) ft (fun i hi=>by have:=h1 (i+1) (by simp;omega);simpa[yB2,zE2 1 i]using this) (fun i o u=>by have:=h2 (i+1) o (by simpa using u);simpa[yB2,zE2 1 i]using this) h3
   (fun i k hi hk=>by
    by_cases e:i=j;subst e;rw[f0];exact .inl rfl;exact h4 i k (by omega) hk)
   (fun i hi=>by
    by_cases e:i=j;subst e;exact⟨_,by have:=h2 0 o rfl;simpa using this,qZ _ _ _⟩;exact h5 i (by omega))
  refine⟨D,fun d hd=>?_⟩;simp only[dX,hw];have:=m d hd;rw[gX,f0]at this;rw[xR2,show j+(os.length+1)=j+1+os.length by omega];exact this
 |@op o os σ τ fs xs out hw he hc hd h ih=>
  intro j ft h1 h2 h3 h4 h5;have f0:ft j={Sim.foot T o.k xs with al:=List.range' σ.s.n ((out.apply σ.s).n-σ.s.n)}:=by have:=h1 0 (by simp);simpa using this.symm
  obtain⟨D,m⟩:=ih (j+1) ft (fun i hi=>by have:=h1 (i+1) (by simp;omega);simpa[yB2,zE2 1 i]using this) (fun i o u=>by have:=h2 (i+1) o (by simpa using u);simpa[yB2,zE2 1 i]using this) h3
   (fun i k hi hk=>by
    by_cases e:i=j;subst e;have:=h2 0 o rfl;rw[zD2,hk]at this;cases this;rw[f0];exact Ta hc hd;exact h4 i k (by omega) hk)
   (fun i hi=>by
    by_cases e:i=j;subst e;exact⟨_,by have:=h2 0 o rfl;simpa using this,qZ _ _ _⟩;exact h5 i (by omega))
  have z:(Sim.foot T o.k xs).all=0:=by
   cases hk:o.k<;>simp[hk,jQ]at hc<;>(rcases xs with _|⟨a,_|⟨b,_|⟨c,t⟩⟩⟩<;>rfl)
  have w:¬(Sim.foot T o.k xs).all=1:=by omega
  have q:¬(Sim.foot T o.k xs).all=3:=by omega
  refine⟨D,fun d A=>?_⟩;simp only[dX,hw,xM2,he];rw[wN2 w,wN2 q,Sz hc hd];simp only;have:=m d A;rw[gX,f0]at this;rw[xR2,show j+(os.length+1)=j+1+os.length by omega];exact this
 |@ncall o os σ τ fs xs v s' hw he hf hk hs h ih=>
  intro j ft h1 h2 h3 h4 h5;have f0:ft j={Sim.foot T o.k xs with al:=List.range' σ.s.n (s'.n-σ.s.n)}:=by have:=h1 0 (by simp);simpa using this.symm
  obtain⟨D,m⟩:=ih (j+1) ft (fun i hi=>by have:=h1 (i+1) (by simp;omega);simpa[yB2,zE2 1 i]using this) (fun i o u=>by have:=h2 (i+1) o (by simpa using u);simpa[yB2,zE2 1 i]using this) h3
   (fun i k hi x=>by
    by_cases e:i=j;subst e;have:=h2 0 o rfl;rw[zD2,x]at this;cases this;rw[f0,hk B];exact .inr trivial;exact h4 i k (by omega) x)
   (fun i hi=>by
    by_cases e:i=j;subst e;exact⟨_,by have:=h2 0 o rfl;simpa using this,qZ _ _ _⟩;exact h5 i (by omega))
  obtain⟨D2,p⟩:=hs;refine⟨max D D2,fun d hd=>?_⟩;simp only[dX,hw,xM2,he];rw[wN2 (by rw[hf];omega),wN2 (by rw[hf];omega),p d (by omega)];simp only;have:=m d (by omega);rw[gX,f0]at this;rw[xR2,show j+(os.length+1)=j+1+os.length by omega];exact this
 |@call o os σ τ fs xs v hw he hc hk3 hf hs h ih=>
  intro j ft h1 h2 h3 h4 h5;have f0:ft j={all:=1}:=by have:=h1 0 (by simp);simpa using this.symm
  have r:ks[j]? =some (mW N dr o.k):=by
   have:=h2 0 o rfl;simpa using this
  obtain⟨D,m⟩:=ih (j+1) ft (fun i hi=>by have:=h1 (i+1) (by simp;omega);simpa[yB2,zE2 1 i]using this) (fun i o u=>by have:=h2 (i+1) o (by simpa using u);simpa[yB2,zE2 1 i]using this) h3
   (fun i k hi hk=>by
    by_cases e:i=j;subst e;rw[r]at hk;cases hk;rw[f0];exact rN (vC hc) _ rfl;exact h4 i k (by omega) hk)
   (fun i hi=>by
    by_cases e:i=j;subst e;exact⟨_,r,qZ _ _ _⟩;exact h5 i (by omega))
  obtain⟨D2,p⟩:=hs
  have E:Sim.unseen (before.getD j 0) j (gX ft j)=[]:=by
   refine Cb (fun i hi=>?_);obtain⟨k,hk,y⟩:=h5 i hi;rcases h3 i j k _ hi hk r (vC hc)with g|g;exact .inl g;right;have f:=h4 i k hi hk
   have C:lN k 3=true:=by
    rcases vC (N:=N) (dr:=dr) hc with e|e;rw[e]at g;exact g;rw[e]at g;(match k,y,g with|0,_,_=>rfl|1,_,h|2,_,h|3,_,h|4,_,h|5,_,h=>simp[lN,gH]at h)
   rcases f with f|f;rw[f]
   match k,y,C,f with
   |0,_,_,f=>rw[f]
   |1,_,_,f=>exact f.2.1
   |2,_,g,_=>simp[lN,gH]at g
   |3,_,_,f=>rw[f]
   |4,_,g,_=>simp[lN,gH]at g
   |5,_,g,_=>simp[lN,gH]at g
  refine⟨max D D2,fun d hd=>?_⟩;simp only[dX,hw,xM2,he];rw[wO2 (by rw[hf]),E,bC1,p d (by omega) _];simp only;have:=m d (by omega);rw[gX,f0]at this;rw[hf,xR2,show j+(os.length+1)=j+1+os.length by omega];exact this
theorem Lw {ks before:aA Nat} (h:Ia ks before=true):∀(i l k k':Nat),i<l->ks[i]? =some k->ks[l]? =some k'->(before.getD l 0).testBit i=true\/lN k k'=true:=by
 intro i l k k' a hi hl;simp only[Ia,wR2,aI3,wY2]at h;have:=h l (wI2.1 hl).1 i a;simpa[List.getD,hi,hl]using this
theorem Tr.draw (e:dr≠0) {before:aA Nat} {os:aA Sim.Op1} {σ τ:St} {fs:aA Foot} (h:Tr T N dr lim os σ fs τ) (n:Ia (os.map fun o=>mW N dr o.k) before=true):
  ∃D,∀d,D<=d->∃f,dX T (exec T d) lim before os 0 [] σ=some (τ,f)/\Sim.drawOK before f f.length=true:=by
 let ft:Nat->Foot:=fun i=>fs.getD i {}
 have b:∀i,i<fs.length->fs[i]? =some (ft i):=fun i hi=>by simp[ft,hi]
 obtain⟨hl,a⟩:=h.feet e;have sp:=Lw n;have c:∀(i:Nat) (o:Sim.Op1),os[i]? =some o->(os.map fun o=>mW N dr o.k)[i]? =some (mW N dr o.k):=fun i o m=>by simp[m]
 obtain⟨D,q⟩:=Tr.foot e (before:=before) (ks:=os.map fun o=>mW N dr o.k) h 0 ft (fun i hi=>by rw[yP2];exact b i hi) (fun i o m=>by rw[yP2];exact c i o m)
  (fun i l k k' g h1 h2 _=>sp i l k k' g h1 h2) (fun i k hi=>by omega) (fun i hi=>by omega)
 refine⟨D,fun d hd=>⟨_,q d hd,?_⟩⟩;rw[yP2,Sim.revF_length];refine wW (fun j r i hi=>?_);have p:os[j]? =some os[j]:=by simp
 have oi:os[i]? =some (os[i]'(by omega)):=by simp
 rcases sp i j _ _ hi (c i _ oi) (c j _ p)with h1|h1;exact .inl h1;right;exact Gg (qZ _ _ _) (qZ _ _ _) h1 (a i _ _ oi (b i (by omega))) (a j _ _ p (b j (by omega)))
def Wc (o:Sim.Op1) (a:Nat):Bool:=match o.k,o.xs with
 |.loadS,[.t b]=>Nat.beq b a
 |.loadA _,[.t b]=>Nat.beq b a
 |.slc ..,.t b::_=>Nat.beq b a
 |_,_=>false
def tkM (o:Sim.Op1):Bool:=match o.k with
 |.buildSl .. |.append .. =>true
 |_=>false
def Yn (o:Sim.Op1) (a:Nat):Bool:=match o.k,o.xs with
 |.store _,[.t b,_]=>Nat.beq b a
 |.mapup ..,[.t b,_,_]=>Nat.beq b a
 |_,_=>false
def Wd (o:Sim.Op1) (a:Nat):Bool:=match o.k,o.dst with
 |.buildSl ..,some d=>Nat.beq d a
 |.append ..,some d=>Nat.beq d a
 |_,_=>false
def rB (a:Nat) (o:Sim.Op1):Bool:=match o.dst with
 |some d=> !Nat.beq d a
 |none=>true
def bD1 (o:Sim.Op1) (d:Nat):aB Nat:=match o.k,o.xs,o.dst,o.guard with
 |.append ..,.t b::_,some d',none=>if Nat.beq b d=true then some d' else none
 |_,_,_,_=>none
def vE:aA Sim.Op1->Nat->Nat->Bool
 |[],d,a=>Nat.beq d a
 |o::os,d,a=>(rB d o&&vE os d a)||(match bD1 o d with|some d'=>vE os d' a|none=>false)
def tkL (os:aA Sim.Op1) (o:Sim.Op1) (i a:Nat):Bool:=match o.dst with
 |some d=>Wd o d&&vE (os.drop (i+1)) d a
 |none=>false
def tkS (o:Sim.Op1) (a:Nat):Bool:=match o.k,o.dst with
 |.slc ..,some d=>Nat.beq d a
 |_,_=>false
def We (os:aA Sim.Op1) (p:Nat×Nat×Nat×Nat):Bool:=match os[p.1]?,os[p.2.1]? with
 |some o,some q=>((os.drop p.2.1).all (rB p.2.2.2)&&((Wc o p.2.2.1&&(os.drop p.1).all (rB p.2.2.1)&&Yn q p.2.2.2)||(Wd o p.2.2.1&&(os.drop (p.1+1)).all (rB p.2.2.1)&&Wc q p.2.2.2)||(Nat.beq p.2.2.1 p.2.2.2&&tkM o&&Wc q p.2.2.2)||(tkL os o p.1 p.2.2.1&&Wc q p.2.2.2)))||(Wc o p.2.2.1&&(os.drop p.1).all (rB p.2.2.1)&&(Wd q p.2.2.2&&(os.drop (p.2.1+1)).all (rB p.2.2.2)))||(tkS o p.2.2.1&&(os.drop (p.1+1)).all (rB p.2.2.1)&&(Yn q p.2.2.2&&(os.drop p.2.1).all (rB p.2.2.2)))
 |_,_=>false
def Tb (ks before:aA Nat) (ex:aA (Nat×Nat×Nat×Nat)):Bool:=
 (List.range ks.length).all fun j=>(List.range j).all fun i=>(before.getD j 0).testBit i||lN (ks.getD i 4) (ks.getD j 4)||ex.any fun p=>Nat.beq p.1 i&&Nat.beq p.2.1 j
theorem nW {t:aA AV} {o:Sim.Op1} {a:Nat} {v:AV} (h:rB a o=true):(put t o.dst v)[a]? =t[a]? :=by
 unfold rB at h;unfold put;split;rename_i d hd;rw[hd]at h;simp only[xG2,bZ,xT2]at h;rw[xL2 h];rfl
theorem Tr.keep {os:aA Sim.Op1} {σ τ:St} {fs:aA Foot} (h:Tr T N dr lim os σ fs τ) {a:Nat} (b:os.all (rB a)=true):τ.t[a]? =σ.t[a]? :=by
 induction h with
 |nil=>rfl
 |skip hw h ih=>simp only[yS2,wL2]at b;rw[ih b.2,nW b.1]
 |op hw he hc hd h ih=>simp only[yS2,wL2]at b;rw[ih b.2,nW b.1]
 |call hw he hc hk hf hs h ih=>simp only[yS2,wL2]at b;rw[ih b.2,nW b.1]
 |ncall hw he hf hk hs h ih=>simp only[yS2,wL2]at b;rw[ih b.2,nW b.1]
theorem wI1 {L:Nat->aB AO} {n:Nat} {o:Sim.Op1} {a:Nat} {xs:aA AV} {out:Out} (hk:Yn o a=true) (h:doOp L lim n o.k xs=some out):out.new=none:=by
 unfold Yn at hk;split at hk
 .rename_i h1 h2
  rw[h1]at h;unfold doOp at h
  repeat' split at h
  all_goals first|(cases h;done)|(cases h;rfl)|simp_all
 .rename_i h1 h2
  rw[h1]at h;unfold doOp at h
  repeat' split at h
  all_goals first|(cases h;done)|(cases h;rfl)|simp_all
 .cases hk
theorem Wg {t:aA AV} {b:Nat} {r:aA IX} {xs:aA AV} (h:Sim.evs t (.t b::r)=some xs):∃y ys,xs=y::ys/\t[b]? =some y/\Sim.evs t r=some ys:=by
 simp only[Sim.evs,Sim.IX.ev]at h;split at h;rename_i a as h1 h2;cases h;exact⟨a,as,rfl,h1,h2⟩;cases h
theorem rO {s:Hp} {out:Out} {x:AO} (h:out.new=some x):List.range' s.n ((out.apply s).n-s.n)=[s.n]:=by
 have:(out.apply s).n=s.n+1:=by unfold Out.apply;rw[h]
 rw[this,Nat.add_sub_cancel_left];rfl
def bE1 (f:Foot) (τ:St) (a:Nat):Prop:=f={}\/∀y,τ.t[a]? =some y->f.rd=Sim.idOf y/\f.wr=[]/\f.al=[]/\f.all=0
def wJ1 (f:Foot) (τ:St) (a:Nat):Prop:=f={}\/∀y,τ.t[a]? =some y->f.wr=Sim.idOf y/\f.rd=[]/\f.al=[]/\f.all=0
def hY1 (f:Foot) (τ:St) (a:Nat):Prop:=f={}\/∀y,τ.t[a]? =some y->f.all=0/\(∀x∈f.wr,x∈Sim.idOf y)/\∀x∈f.al,x∈Sim.idOf y
theorem Qe {L:Nat->aB AO} {n ty esz:Nat} {s:AV} {new:aA (aA AV)} {out:Out} (h:Sim.appendTo L lim n ty esz s new=some out):
  (∀x∈Sim.idOf s,x∈Sim.idOf out.v)/\(out.new=none\/Sim.idOf out.v=[n]):=by
 unfold Sim.appendTo at h
 repeat' split at h
 all_goals first|(cases h;done)|(cases h;exact⟨fun x a=>a,.inl rfl⟩)|(cases h;exact⟨fun x a=>by simp[Sim.idOf]at a,.inr rfl⟩)
theorem Ib {L:Nat->aB AO} {n:Nat} {o:Sim.Op1} {a:Nat} {xs:aA AV} {out:Out} (hk:Wd o a=true) (h:doOp L lim n o.k xs=some out):
  (foot T o.k xs).all=0/\(∀x∈(foot T o.k xs).wr,x∈Sim.idOf out.v)/\(out.new=none\/Sim.idOf out.v=[n])/\o.dst=some a:=by
 unfold Wd at hk;split at hk;rename_i d h1 h2;rw[h1]at h ⊢;rw[h2,xB2 hk];refine⟨by rcases xs with _|⟨p,_|⟨q,_|⟨r,t⟩⟩⟩<;>rfl,fun x e=>by rcases xs with _|⟨p,_|⟨q,_|⟨r,t⟩⟩⟩<;>simp[foot]at e,.inr ?_,rfl⟩;unfold doOp at h;simp only[wM2]at h;obtain⟨cs,_,rfl⟩:=h;rfl;rename_i d h1 h2;rw[h1]at h ⊢;rcases xs with _|⟨p,_|⟨q,_|⟨r,t⟩⟩⟩
 simp[doOp]at h;simp[doOp]at h;simp only[doOp]at h;split at h;split at h;rename_i o' c;have:=Qe c
 have b:out=o':=by
  split at h;split at h;cases h;rfl;cases h;cases h;rfl
 subst b;exact⟨rfl,this.1,this.2,by rw[h2,xB2 hk]⟩;cases h;cases h;simp[doOp]at h;cases hk
theorem rQ1 {o:Sim.Op1} {a:Nat} {σ:St} {xs:aA AV} (hk:Wc o a=true) (he:Sim.evs σ.t o.xs=some xs):∃y,σ.t[a]? =some y/\foot T o.k xs={rd:=Sim.idOf y}/\mW N dr o.k<=1:=by
 unfold Wc at hk;split at hk;rename_i b h1 h2;rw[h2]at he;obtain⟨y,ys,rfl,h3,h4⟩:=Wg he;simp only[Sim.evs,wP2]at h4;subst h4;rw[h1,<-xB2 hk];exact⟨y,h3,rfl,by simp[mW]⟩;rename_i b h1 h2;rw[h2]at he;obtain⟨y,ys,rfl,h3,h4⟩:=Wg he;simp only[Sim.evs,wP2]at h4;subst h4;rw[h1,<-xB2 hk];exact⟨y,h3,rfl,by simp[mW]⟩;rename_i b _ h1 h2;rw[h2]at he;obtain⟨y,ys,rfl,h3,h4⟩:=Wg he;rw[h1,<-xB2 hk];exact⟨y,h3,rfl,by simp[mW]⟩;cases hk
theorem rR1 {o:Sim.Op1} {a:Nat} {σ:St} {xs:aA AV} (hk:Yn o a=true) (he:Sim.evs σ.t o.xs=some xs):∃y,σ.t[a]? =some y/\foot T o.k xs={wr:=Sim.idOf y}:=by
 unfold Yn at hk;split at hk;rename_i b c h1 h2;rw[h2]at he;obtain⟨y,ys,rfl,h3,h4⟩:=Wg he;rw[h1,<-xB2 hk];exact⟨y,h3,rfl⟩;rename_i b c d h1 h2;rw[h2]at he;obtain⟨y,ys,rfl,h3,h4⟩:=Wg he;rw[h1,<-xB2 hk];exact⟨y,h3,rfl⟩;cases hk
theorem pE {o:Sim.Op1} {a:Nat} (h:Wc o a=true\/Yn o a=true\/Wd o a=true):jQ o.k=false/\∀xs,(foot T o.k xs).all=0:=by
 have key:∀k:fC,(k=.loadS\/(∃n,k=.loadA n)\/(∃n,k=.store n)\/(∃a b,k=.mapup a b)\/(∃a b c d e,k=.buildSl a b c d e)\/(∃a b c d e,k=.append a b c d e)\/∃a b c d,k=.slc a b c d)->jQ k=false/\∀xs,(foot T k xs).all=0:=by
  intro k hk
  rcases hk with rfl|⟨_,rfl⟩|⟨_,rfl⟩|⟨_,_,rfl⟩|⟨_,_,_,_,_,rfl⟩|⟨_,_,_,_,_,rfl⟩|⟨_,_,_,_,rfl⟩<;>
   exact⟨rfl,fun xs=>by rcases xs with _|⟨p,_|⟨q,_|⟨r,t⟩⟩⟩<;>rfl⟩
 refine key _ ?_;rcases h with h|h|h;unfold Wc at h;split at h;rename_i h1 _;exact .inl h1;rename_i h1 _;exact .inr (.inl ⟨_,h1⟩);rename_i h1 _;exact .inr (.inr (.inr (.inr (.inr (.inr ⟨_,_,_,_,h1⟩)))));cases h;unfold Yn at h;split at h;rename_i h1 _;exact .inr (.inr (.inl ⟨_,h1⟩));rename_i h1 _;exact .inr (.inr (.inr (.inl ⟨_,_,h1⟩)));cases h;unfold Wd at h;split at h;rename_i h1 _;exact .inr (.inr (.inr (.inr (.inl ⟨_,_,_,_,_,h1⟩))));rename_i h1 _;exact .inr (.inr (.inr (.inr (.inr (.inl ⟨_,_,_,_,_,h1⟩)))));cases h
theorem Tr.touch {os:aA Sim.Op1} {σ τ:St} {fs:aA Foot} (h:Tr T N dr lim os σ fs τ):∀(i:Nat) (o:Sim.Op1) (f:Foot) (a:Nat),os[i]? =some o->fs[i]? =some f->
  (Wc o a=true->(os.drop i).all (rB a)=true->bE1 f τ a)/\(Yn o a=true->(os.drop i).all (rB a)=true->wJ1 f τ a)/\(Wd o a=true->(os.drop (i+1)).all (rB a)=true->hY1 f τ a):=by
 induction h with
 |nil=>intro i o f a h;simp at h
 |skip hw h ih=>
  intro i o f a h1 h2;cases i with
  |zero=>simp at h1 h2;subst h1;subst h2;exact⟨fun _ _=>.inl rfl,fun _ _=>.inl rfl,fun _ _=>.inl rfl⟩
  |succ i=>simp at h1 h2;simpa using ih i o f a h1 h2
 |@op o os σ τ fs xs out hw he hc hd h ih=>
  intro i o' f a h1 h2;cases i with
  |zero=>
   simp at h1 h2;subst h1;subst h2;refine⟨fun hk hb=>?_,fun hk hb=>?_,fun hk hb=>?_⟩;simp only[yH2,yS2,wL2]at hb;obtain⟨y,j,d,e⟩:=rQ1 (T:=T) (N:=N) (dr:=dr) hk he;refine .inr (fun z b=>?_);rw[h.keep hb.2,nW hb.1,j]at b;cases b;exact⟨by rw[d],by rw[d],rA (oP1 hd e),by rw[d]⟩;simp only[yH2,yS2,wL2]at hb;obtain⟨y,j,d⟩:=rR1 (T:=T) hk he;refine .inr (fun z b=>?_);rw[h.keep hb.2,nW hb.1,j]at b;cases b;exact⟨by rw[d],by rw[d],rA (wI1 hk hd),by rw[d]⟩;obtain⟨j,d,e,m⟩:=Ib (T:=T) hk hd;have hb:os.all (rB a)=true:=by simpa using hb
   have g:∀z,(put σ.t o.dst out.v)[a]? =some z->z=out.v:=fun z b=>by
    rw[m]at b;simp only[put,xH2]at b;split at b;split at b;cases b;rfl;cases b;rename_i l;exact(l trivial).elim
   refine .inr (fun z b=>?_);rw[h.keep hb]at b;have:=g z b;subst this;refine⟨j,d,fun x c=>?_⟩;rcases e with e|e;have:=rA (s:=σ.s) e;simp only at c;rw[this]at c;simp at c;cases hn:out.new with
   |none=>
    have:=rA (s:=σ.s) hn;simp only at c;rw[this]at c;simp at c
   |some w=>
    simp only at c;rw[rO hn]at c;rw[e];exact c
  |succ i=>simp at h1 h2;simpa using ih i o' f a h1 h2
 |@call o os σ τ fs xs v hw he hc hk hf hs h ih=>
  intro i o' f a h1 h2;cases i with
  |zero=>
   simp at h1 h2;subst h1;subst h2;have no:¬(Wc o a=true\/Yn o a=true\/Wd o a=true):=fun k=>by have:=(pE (T:=T) k).1;rw[hc]at this;cases this
   exact⟨fun hk _=>absurd (.inl hk) no,fun hk _=>absurd (.inr (.inl hk)) no,fun hk _=>absurd (.inr (.inr hk)) no⟩
  |succ i=>simp at h1 h2;simpa using ih i o' f a h1 h2
 |@ncall o os σ τ fs xs v s' hw he hf hk hs h ih=>
  intro i o' f a h1 h2;cases i with
  |zero=>
   simp at h1 h2;subst h1;subst h2;have no:¬(Wc o a=true\/Yn o a=true\/Wd o a=true):=fun k=>by have:=(pE (T:=T) k).2 xs;rw[hf]at this;cases this
   exact⟨fun hk _=>absurd (.inl hk) no,fun hk _=>absurd (.inr (.inl hk)) no,fun hk _=>absurd (.inr (.inr hk)) no⟩
  |succ i=>simp at h1 h2;simpa using ih i o' f a h1 h2
theorem hZ1 {L:Nat->aB AO} {n e:Nat} {lo hi mx:Bool} {xs:aA AV} {out:Out} (h:doOp L lim n (.slc e lo hi mx) xs=some out):∃y,foot T (.slc e lo hi mx) xs={rd:=Sim.idOf y}/\Sim.idOf out.v=Sim.idOf y/\out.new=none:=by
 cases xs with
 |nil=>simp[doOp,Sim.sliceOp]at h
 |cons y ys=>
  refine⟨y,rfl,?_⟩;have h2:(Sim.sliceOp L e lo hi mx (y::ys)).map (fun v=>({v:=v}:Out))=some out:=h;clear h;rw[wM2]at h2;obtain⟨v,h3,rfl⟩:=h2;refine⟨?_,rfl⟩;cases y<;>simp only[Sim.sliceOp]at h3<;>(repeat' split at h3)<;>first|(cases h3;done)|(cases h3;rfl)|(simp at h3;done)|(simp at h3;subst h3;simp_all[Sim.idOf])
theorem Tr.touchS {os:aA Sim.Op1} {σ τ:St} {fs:aA Foot} (h:Tr T N dr lim os σ fs τ):∀(i:Nat) (o:Sim.Op1) (f:Foot) (a:Nat),os[i]? =some o->fs[i]? =some f->tkS o a=true->(os.drop (i+1)).all (rB a)=true->bE1 f τ a:=by
 induction h with
 |nil=>intro i o f a h;simp at h
 |skip hw h ih=>
  intro i o f a h1 h2 hk hb;cases i with
  |zero=>simp at h1 h2;subst h1;subst h2;exact .inl rfl
  |succ i=>simp at h1 h2;exact ih i o f a h1 h2 hk (by simpa using hb)
 |@op o os σ τ fs xs out hw he hc hd h ih=>
  intro i o' f a h1 h2 hk hb;cases i with
  |zero=>
   simp at h1 h2;subst h1;subst h2;unfold tkS at hk;split at hk;rename_i d q1 q2;rw[q1]at hd;obtain⟨y,g,j,k⟩:=hZ1 (T:=T) hd;have hb:os.all (rB a)=true:=by simpa using hb
   have c:∀z,(put σ.t o.dst out.v)[a]? =some z->z=out.v:=fun z b=>by
    rw[q2,xB2 hk]at b;simp only[put,xH2]at b;split at b;split at b;cases b;rfl;cases b;rename_i e;exact(e trivial).elim
   refine .inr (fun z b=>?_);rw[h.keep hb]at b;have:=c z b;subst this;rw[q1];exact⟨by rw[g,j],by rw[g],rA k,by rw[g]⟩;cases hk
  |succ i=>simp at h1 h2;exact ih i o' f a h1 h2 hk (by simpa using hb)
 |@call o os σ τ fs xs v hw he hc hk' hf hs h ih=>
  intro i o' f a h1 h2 hk hb;cases i with
  |zero=>
   simp at h1 h2;subst h1;subst h2;unfold tkS at hk;split at hk;rename_i d q1 q2;rw[q1]at hc;cases hc;cases hk
  |succ i=>simp at h1 h2;exact ih i o' f a h1 h2 hk (by simpa using hb)
 |@ncall o os σ τ fs xs v s' hw he hf hk' hs h ih=>
  intro i o' f a h1 h2 hk hb;cases i with
  |zero=>
   simp at h1 h2;subst h1;subst h2;unfold tkS at hk;split at hk;rename_i d q1 q2;rw[q1]at hf;rcases xs with _|⟨x,t⟩<;>exact absurd (show(0:Nat)=2 from hf) (by decide);cases hk
  |succ i=>simp at h1 h2;exact ih i o' f a h1 h2 hk (by simpa using hb)
theorem pF {o:Sim.Op1} {d a:Nat} (h:bD1 o d=some a):o.guard=none/\o.dst=some a/\Wd o a=true/\∃ty es b zero g r,o.k=.append ty es b zero g/\o.xs=.t d::r:=by
 unfold bD1 at h;split at h;rename_i h1 h2 h3 h4;split at h;rename_i hb;cases h;refine⟨h4,h3,?_,_,_,_,_,_,_,h1,by rw[h2,xB2 hb]⟩;unfold Wd;rw[h1,h3];exact Nat.beq_refl _;cases h;cases h
theorem Tr.flow {os:aA Sim.Op1} {σ τ:St} {fs:aA Foot} (h:Tr T N dr lim os σ fs τ):∀(d a:Nat),vE os d a=true->∀z,τ.t[a]? =some z->∃y,σ.t[d]? =some y/\∀x∈Sim.idOf y,x∈Sim.idOf z:=by
 induction h with
 |nil=>
  intro d a hf z c;simp only[vE]at hf;rw[xB2 hf];exact⟨z,c,fun x i=>i⟩
 |@skip o os σ τ fs hw h ih=>
  intro d a hf z c;simp only[vE,wY2,wL2]at hf;rcases hf with hf|hf;obtain⟨y,h1,h2⟩:=ih d a hf.2 z c;exact⟨y,by rw[<-h1];exact(nW hf.1).symm,h2⟩;split at hf;rename_i e hs;rw[(pF hs).1]at hw;simp[Sim.wanted]at hw;cases hf
 |@op o os σ τ fs xs out hw he hc hd h ih=>
  intro d a hf z c;simp only[vE,wY2,wL2]at hf;rcases hf with hf|hf;obtain⟨y,h1,h2⟩:=ih d a hf.2 z c;exact⟨y,by rw[<-h1];exact(nW hf.1).symm,h2⟩;split at hf;rename_i e hs;obtain⟨q1,q2,q3,ty,es,b,zero,g,r,q4,q5⟩:=pF hs;obtain⟨l,h1,h2⟩:=ih e a hf z c;obtain⟨m,k,n,p⟩:=Ib (T:=T) q3 hd
  have hv:l=out.v:=by
   have c:=h1;simp only at c;rw[q2]at c;simp only[put,xH2]at c;split at c;split at c;cases c;rfl;cases c;rename_i f;exact(f trivial).elim
  subst hv;rw[q5]at he;obtain⟨y,ys,rfl,j,e2⟩:=Wg he;refine⟨y,j,fun x i=>h2 x (k x ?_)⟩;rw[q4]at hd ⊢;rcases ys with _|⟨w,_|⟨w2,ws⟩⟩
  simp[doOp]at hd;exact i;simp[doOp]at hd;cases hf
 |@call o os σ τ fs xs v hw he hc hk hff hs h ih=>
  intro d a hf z c;simp only[vE,wY2,wL2]at hf;rcases hf with hf|hf;obtain⟨y,h1,h2⟩:=ih d a hf.2 z c;exact⟨y,by rw[<-h1];exact(nW hf.1).symm,h2⟩;split at hf;rename_i e hs;have:=(pE (T:=T) (.inr (.inr (pF hs).2.2.1))).1;rw[hc]at this;cases this;cases hf
 |@ncall o os σ τ fs xs v s' hw he hff hk hs h ih=>
  intro d a hf z c;simp only[vE,wY2,wL2]at hf;rcases hf with hf|hf;obtain⟨y,h1,h2⟩:=ih d a hf.2 z c;exact⟨y,by rw[<-h1];exact(nW hf.1).symm,h2⟩;split at hf;rename_i e hs;have:=(pE (T:=T) (.inr (.inr (pF hs).2.2.1))).2 xs;rw[hff]at this;cases this;cases hf
theorem Tr.touchL {os:aA Sim.Op1} {σ τ:St} {fs:aA Foot} (h:Tr T N dr lim os σ fs τ):∀(i:Nat) (o:Sim.Op1) (f:Foot) (a:Nat),os[i]? =some o->fs[i]? =some f->tkL os o i a=true->hY1 f τ a:=by
 induction h with
 |nil=>intro i o f a h;simp at h
 |skip hw h ih=>
  intro i o f a h1 h2 hk;cases i with
  |zero=>simp at h1 h2;subst h1;subst h2;exact .inl rfl
  |succ i=>simp at h1 h2;exact ih i o f a h1 h2 (by simpa[tkL]using hk)
 |@op o os σ τ fs xs out hw he hc hd h ih=>
  intro i o' f a h1 h2 hk;cases i with
  |zero=>
   simp at h1 h2;subst h1;subst h2;unfold tkL at hk;split at hk;rename_i d g;simp only[wL2,List.drop_succ_cons,yH2]at hk;obtain⟨m,n,j,q⟩:=Ib (T:=T) hk.1 hd;refine .inr (fun z e=>?_);obtain⟨y,p,l⟩:=h.flow d a hk.2 z e
   have hv:y=out.v:=by
    have e:=p;simp only at e;rw[g]at e;simp only[put,xH2]at e;split at e;split at e;cases e;rfl;cases e;rename_i k;exact(k trivial).elim
   subst hv;refine⟨m,fun x c=>l x (n x c),fun x c=>l x ?_⟩;rcases j with j|j;have:=rA (s:=σ.s) j;simp only at c;rw[this]at c;simp at c;cases hn:out.new with
   |none=>
    have:=rA (s:=σ.s) hn;simp only at c;rw[this]at c;simp at c
   |some w=>
    simp only at c;rw[rO hn]at c;rw[j];exact c
   cases hk
  |succ i=>simp at h1 h2;exact ih i o' f a h1 h2 (by simpa[tkL]using hk)
 |@call o os σ τ fs xs v hw he hc hk hf hs h ih=>
  intro i o' f a h1 h2 b;cases i with
  |zero=>
   simp at h1 h2;subst h1;subst h2;unfold tkL at b;split at b;simp only[wL2]at b;have:=(pE (T:=T) (.inr (.inr b.1))).1;rw[hc]at this;cases this;cases b
  |succ i=>simp at h1 h2;exact ih i o' f a h1 h2 (by simpa[tkL]using b)
 |@ncall o os σ τ fs xs v s' hw he hf hk hs h ih=>
  intro i o' f a h1 h2 b;cases i with
  |zero=>
   simp at h1 h2;subst h1;subst h2;unfold tkL at b;split at b;simp only[wL2]at b;have:=(pE (T:=T) (.inr (.inr b.1))).2 xs;rw[hf]at this;cases this;cases b
  |succ i=>simp at h1 h2;exact ih i o' f a h1 h2 (by simpa[tkL]using b)
def Tc (τ:St) (p:Nat×Nat×Nat×Nat):Prop:=∃y z,τ.t[p.2.2.1]? =some y/\τ.t[p.2.2.2]? =some z/\∀x∈Sim.idOf y,x∉Sim.idOf z
theorem lY {f g:Foot} {τ:St} {p:Nat×Nat×Nat×Nat} (h:(bE1 f τ p.2.2.1/\wJ1 g τ p.2.2.2)\/(hY1 f τ p.2.2.1/\bE1 g τ p.2.2.2)) (m:Tc τ p):Sim.compat0 f g=true:=by
 obtain⟨y,z,hy,l,hd⟩:=m;rcases h with⟨h1,h2⟩|⟨h1,h2⟩
 rcases h2 with rfl|h2;rcases h1 with rfl|h1;rfl;obtain⟨a,b,c,d⟩:=h1 y hy;simp[Sim.compat0,b,c,d];obtain⟨a',b',k,j⟩:=h2 z l;rcases h1 with rfl|h1;simp[Sim.compat0,j];obtain⟨a,b,c,d⟩:=h1 y hy;have:∀x∈g.wr,x∉f.rd:=fun x i e=>by rw[a]at e;rw[a']at i;exact hd x e i
 simpa[Sim.compat0,b,c,d,b',k,j]using this;rcases h2 with rfl|h2;rcases h1 with rfl|h1;rfl;obtain⟨a,b,c⟩:=h1 y hy;simp[Sim.compat0,a];obtain⟨a',b',k,j⟩:=h2 z l;rcases h1 with rfl|h1;simp[Sim.compat0,j];obtain⟨a,b,c⟩:=h1 y hy;have n:∀x∈f.wr,x∉g.rd:=fun x i e=>by rw[a']at e;exact hd x (b x i) e
 have o:∀x∈f.al,x∉g.rd:=fun x i e=>by rw[a']at e;exact hd x (c x i) e
 simpa[Sim.compat0,a,b',k,j]using And.intro n o
theorem Wh {f g:Foot} {τ:St} {p:Nat×Nat×Nat×Nat} (h1:bE1 f τ p.2.2.1) (h2:hY1 g τ p.2.2.2) (j:Tc τ p):Sim.compat0 f g=true:=by
 obtain⟨y,z,hy,h,hd⟩:=j;rcases h1 with rfl|h1;rcases h2 with rfl|h2;rfl;obtain⟨a',b',i⟩:=h2 z h;simp[Sim.compat0,a'];obtain⟨a,b,c,d⟩:=h1 y hy;rcases h2 with rfl|h2;simp[Sim.compat0,b,c,d];obtain⟨a',b',i⟩:=h2 z h;have:∀x∈g.wr,x∉f.rd:=fun x k e=>by rw[a]at e;exact hd x e (b' x k)
 simpa[Sim.compat0,b,c,d,a']using this
theorem Qf {ks before:aA Nat} {ex:aA (Nat×Nat×Nat×Nat)} (h:Tb ks before ex=true):∀(i l k k':Nat),i<l->ks[i]? =some k->ks[l]? =some k'->((before.getD l 0).testBit i=true\/lN k k'=true)\/∃p∈ex,p.1=i/\p.2.1=l:=by
 intro i l k k' a hi hl;simp only[Tb,wR2,aI3,wY2,List.any_eq_true,wL2]at h;rcases h l (wI2.1 hl).1 i a with h1|⟨p,h1,h2,h3⟩
 exact .inl (by simpa[List.getD,hi,hl]using h1);exact .inr ⟨p,h1,xB2 h2,xB2 h3⟩
theorem Tr.drawX (v:dr≠0) {before:aA Nat} {ex:aA (Nat×Nat×Nat×Nat)} {os:aA Sim.Op1} {σ τ:St} {fs:aA Foot} (h:Tr T N dr lim os σ fs τ) (J:Tb (os.map fun o=>mW N dr o.k) before ex=true)
  (E:ex.all (We os)=true) (m:∀p∈ex,Tc τ p):
  ∃D,∀d,D<=d->∃B,dX T (exec T d) lim before os 0 [] σ=some (τ,B)/\Sim.drawOK before B B.length=true:=by
 let ft:Nat->Foot:=fun i=>fs.getD i {}
 have f:∀i,i<fs.length->fs[i]? =some (ft i):=fun i hi=>by simp[ft,hi]
 obtain⟨hl,g⟩:=h.feet v;have sp:=Qf J;have r:∀(i:Nat) (o:Sim.Op1),os[i]? =some o->(os.map fun o=>mW N dr o.k)[i]? =some (mW N dr o.k):=fun i o H=>by simp[H]
 have A:∀p∈ex,∃o q,os[p.1]? =some o/\os[p.2.1]? =some q/\We os p=true:=by
  intro p hp;have:=wR2.1 E p hp;have h2:=this;unfold We at h2;split at h2
  .rename_i o q h3 h4;exact⟨o,q,h3,h4,this⟩
  .cases h2
 obtain⟨D,O⟩:=Tr.foot v (before:=before) (ks:=os.map fun o=>mW N dr o.k) h 0 ft (fun i hi=>by rw[yP2];exact f i hi) (fun i o H=>by rw[yP2];exact r i o H)
  (fun i l k k' F h1 h2 G=>by
   rcases sp i l k k' F h1 h2 with h3|⟨p,hp,rfl,rfl⟩
   .exact h3
   .exfalso
    obtain⟨o,q,t,e2,e⟩:=A p hp;rw[r _ _ e2]at h2;cases h2;unfold We at e;rw[t,e2]at e;simp only[wL2,wY2]at e
    have P:Wc q p.2.2.2=true\/Yn q p.2.2.2=true\/Wd q p.2.2.2=true:=by
     rcases e with(e|e)|e
     .rcases e.2 with((h|h)|h)|h
      .exact .inr (.inl h.2)
      .exact .inl h.2
      .exact .inl h.2
      .exact .inl h.2
     .exact .inr (.inr e.2.1)
     .exact .inr (.inl e.2.1)
    have hc:=(pE (T:=T) P).1;revert G hc;cases q.k
    case len n=>simp only[mW];cases Nat.beq n 2<;>simp
    all_goals simp[mW,jQ]) (fun i k hi=>by omega) (fun i hi=>by omega)
 refine⟨D,fun d hd=>⟨_,O d hd,?_⟩⟩;rw[yP2,Sim.revF_length];refine wW (fun j R i hi=>?_);have M:os[j]? =some os[j]:=by simp
 have oi:os[i]? =some (os[i]'(by omega)):=by simp
 rcases sp i j _ _ hi (r i _ oi) (r j _ M)with(h1|h1)|⟨p,hp,rfl,rfl⟩
 .exact .inl h1
 .right
  exact Gg (qZ _ _ _) (qZ _ _ _) h1 (g i _ _ oi (f i (by omega))) (g j _ _ M (f j (by omega)))
 .right
  obtain⟨o,q,t,e2,e⟩:=A p hp;unfold We at e;rw[t,e2]at e;simp only[wL2,wY2]at e;have K:=h.touch p.1 o _ p.2.2.1 t (f p.1 (by omega));have u:=h.touch p.2.1 q _ p.2.2.2 e2 (f p.2.1 (by omega));rcases e with(e|e)|e
  case inr.inr=>exact iK<|lY (.inl ⟨h.touchS p.1 o _ p.2.2.1 t (f p.1 (by omega)) e.1.1 e.1.2,u.2.1 e.2.1 e.2.2⟩) (m p hp)
  case inr.inl.inr=>exact iK<|Wh (K.1 e.1.1 e.1.2) (u.2.2 e.2.1 e.2.2) (m p hp)
  rcases e.2 with((⟨⟨h1,h2⟩,h3⟩|⟨⟨h1,h2⟩,h3⟩)|⟨⟨h1,h2⟩,h3⟩)|⟨h1,h3⟩
  .exact iK<|lY (.inl ⟨K.1 h1 h2,u.2.1 h3 e.1⟩) (m p hp)
  .exact iK<|lY (.inr ⟨K.2.2 h1 h2,u.1 h3 e.1⟩) (m p hp)
  .have C:=xB2 h1
   obtain⟨y,z,hy,L,hd⟩:=m p hp;rw[C]at hy;rw[hy]at L;cases L;have w:Sim.idOf y=[]:=List.eq_nil_iff_forall_not_mem.2 (fun x A=>hd x A A)
   have s:(ft p.1).all=0:=by
    have hf:=g p.1 o _ t (f p.1 (by omega));unfold tkM at h2;unfold nV at hf;split at h2
    .rename_i hk
     rw[hk]at hf;rcases hf with hf|hf
     .rw [hf]
     .exact hf.2.2
    .rename_i hk
     rw[hk]at hf;rcases hf with hf|hf
     .rw [hf]
     .exact hf
    .cases h2
   rcases u.1 h3 e.1 with hg|hg
   .refine iK ?_
    rw[hg];simp[Sim.compat0,s]
   .obtain ⟨a,b,c,d⟩:=hg y hy
    rw[w]at a;refine iK ?_;simp[Sim.compat0,s,a,b,c,d]
  .exact iK<|lY (.inr ⟨h.touchL p.1 o _ p.2.2.1 t (f p.1 (by omega)) h1,u.1 h3 e.1⟩) (m p hp)
end
end Go.P
namespace Go.P
open Go.Sim (AV AO Hp gP upd St IC IX Ex fC CK Wf Out doOp jA exec mapO oO yR Oc)
theorem zD {A:Type} {f:A->aB A}:∀{l:aA A},(∀x∈l,f x=some x)->mapO f l=some l
 |[],_=>rfl
 |a::as,h=>by
  have h1:=h a (List.mem_cons_self ..)
  have h2:=zD (f:=f) (l:=as) (fun x b=>h x (yA2 _ b))
  simp only[mapO,h1,h2]
section
variable {L:Nat->Option AO} {n0:Nat}
theorem Cc {x:PV} {y:AV} {d:Nat} (h:RC true x y):oO L n0 (d+1) y=some y:=by
 cases h<;>rfl
theorem Ic {Q:PV->AV->Prop} {xs:aA PV} {ys:aA AV} (h:LR Q xs ys) {y:AV} (hy:y∈ys):∃x,x∈xs/\Q x y:=by
 obtain⟨j,a⟩:=xE2.1 hy;have b:j<xs.length:=by rw[h.1];exact(wI2.1 a).1
 exact⟨xs[j],by simp,h.2 j _ y (by simp) a⟩
theorem Gi {xs:aA PV} {ys:aA AV} {d:Nat} (h:LR (RC true) xs ys):mapO (oO L n0 (d+1)) ys=some ys:=
 zD fun y hy=>by
  obtain⟨x,_,a⟩:=Ic h hy
  exact Cc a
theorem iA1 {rows:aA (aA PV)} {els:aA (aA AV)} {d:Nat} (h:RR rows els):mapO (fun row=>mapO (oO L n0 (d+1)) row) els=some els:=
 zD fun r hr=>by
  obtain⟨j,a⟩:=xE2.1 hr
  have b:j<rows.length:=by rw[h.1];exact(wI2.1 a).1
  exact Gi (h.2 j rows[j] r (by simp) a)
theorem Td {rows:aA (aA PV)} {els:aA (aA AV)} {d e id ver:Nat} {bx:Bool} {ty:TypeId} (c:n0<=id) (a:L id=some (.arr bx ty e ver els)) (hr:RR rows (els.take rows.length)) (b:rows.length<=els.length):
  oO L n0 (d+2) (.sl e id ver 0 rows.length none)=some (.is e (els.take rows.length)):=by
 have hc:n0<=id/\ver=ver/\0+rows.length<=els.length:=⟨c,rfl,by omega⟩
 show(match L id with
   |some (.arr _ _ e ver' els)=>
    if n0<=id/\ver'=ver/\0+rows.length<=els.length then(mapO (fun row=>mapO (oO L n0 (d+1)) row) ((els.drop 0).take rows.length)).map fun rows=>AV.is e rows else none
   |_=>none)=_
 rw[a];show(if n0<=id/\ver=ver/\0+rows.length<=els.length then(mapO (fun row=>mapO (oO L n0 (d+1)) row) ((els.drop 0).take rows.length)).map fun rows=>AV.is e rows else none)=_
 rw[wO2 hc,yH2,iA1 hr];rfl
theorem oQ1 {Q Q':PV->AV->Prop} {f:AV->aB AV} (hf:∀x y,Q x y->∃b,f y=some b/\Q' x b):∀{xs:aA PV} {ys:aA AV},LR Q xs ys->∃a,mapO f ys=some a/\LR Q' xs a
 |[],ys,h=>by rw[h.inv_nil];exact⟨[],rfl,.nil⟩
 |x::xs,ys,h=>by
  obtain⟨y,a,rfl,h1,h2⟩:=h.inv_cons
  obtain⟨b,c,d⟩:=hf x y h1
  obtain⟨zs,e,g⟩:=oQ1 hf h2
  exact⟨b::zs,by simp only[mapO,c,e],.cons d g⟩
theorem bF1 {z:Nat->aB AO} {d:Nat} {f:AV->aB AV} (hf:∀x y,RZ z d x y->∃g,f y=some g/\RC true x g):∀{rows:aA (aA PV)} {els:aA (aA AV)},Fv z d rows els->∃c,mapO (fun row=>mapO f row) els=some c/\RR rows c
 |[],els,h=>by
  have:els=[]:=yX2 h.1.symm
  subst this
  exact⟨[],rfl,.nil⟩
 |r::rows,[],h=>by have:=h.1;simp at this
 |r::rows,e::els,h=>by
  obtain⟨e',k,l⟩:=oQ1 hf (h.2 0 r e rfl rfl)
  obtain⟨es',m,n⟩:=bF1 hf (rows:=rows) (els:=els) ⟨by simpa using h.1,fun i a b j hb=>h.2 (i+1) a b (by simpa using j) (by simpa using hb)⟩
  exact⟨e'::es',by simp only[mapO,k,m],.cons l n⟩
theorem Te {z:Nat->aB AO} (g:∀id o,z id=some o->n0<=id/\L id=some o):∀(d f:Nat),d<f->∀(x:PV) (y:AV),RZ z d x y->∃j,oO L n0 f y=some j/\RC true x j
 |0,f+1,_,x,y,h=>⟨y,Cc h,h⟩
 |d+1,f+1,hd,x,y,h=>by
  rcases h with h|⟨e,rows,id,ver,ty,els,rfl,rfl,h3,h4,h5⟩
  exact⟨y,Cc h,h⟩
  have ih:=Te g d f (by omega)
  have hr:Fv z d rows (els.take rows.length):=⟨by simp[Nat.min_eq_left h4],fun i r r' a b=>h5 i r r' a (by
   rw[xW2]at b
   split at b
   exact b
   cases b)⟩
  obtain⟨c,k,l⟩:=bF1 (f:=oO L n0 f) (fun x y h=>ih x y h) hr
  obtain⟨z1,z2⟩:=g id _ h3
  refine⟨.is e c,?_,l.is⟩
  show(match L id with
   |some (.arr _ _ e ver' els)=>
    if n0<=id/\ver'=ver/\0+rows.length<=els.length then(mapO (fun row=>mapO (oO L n0 f) row) ((els.drop 0).take rows.length)).map fun rows=>AV.is e rows else none
   |_=>none)=_
  rw[z2]
  show(if n0<=id/\ver=ver/\0+rows.length<=els.length then(mapO (fun row=>mapO (oO L n0 f) row) ((els.drop 0).take rows.length)).map fun rows=>AV.is e rows else none)=_
  rw[wO2 ⟨z1,rfl,by omega⟩,yH2,k]
  rfl
theorem oR1 {z:Nat->aB AO} (g:∀id o,z id=some o->n0<=id/\L id=some o) {d f e id ver ty:Nat} {rows:aA (aA PV)} {els:aA (aA AV)} (hd:d<f) (c:n0<=id) (b:L id=some (.arr false ty e ver els)) (hr:Fv z d rows els):
  ∃a,oO L n0 (f+1) (.sl e id ver 0 rows.length none)=some (.is e a)/\RR rows a:=by
 obtain⟨a,i,j⟩:=bF1 (f:=oO L n0 f) (fun x y h=>Te g d f hd x y h) hr;refine⟨a,?_,j⟩;have hl:=hr.1
 show(match L id with
  |some (.arr _ _ e ver' els)=>
   if n0<=id/\ver'=ver/\0+rows.length<=els.length then(mapO (fun row=>mapO (oO L n0 f) row) ((els.drop 0).take rows.length)).map fun rows=>AV.is e rows else none
  |_=>none)=_
 rw[b];show(if n0<=id/\ver=ver/\0+rows.length<=els.length then(mapO (fun row=>mapO (oO L n0 f) row) ((els.drop 0).take rows.length)).map fun rows=>AV.is e rows else none)=_
 rw[wO2 ⟨c,rfl,by omega⟩,yH2,hl,zC2,i];rfl
theorem iB1 {d id ver e o:Nat} {bx:Bool} {ty:TypeId} {esz:Nat} {els:aA (aA AV)} {row:aA AV} (a:L id=some (.arr bx ty esz ver els)) (hr:els[e]? =some row):yR L (d+1) (.ptr id ver e o)=(mapO (yR L d) (row.drop o)).map AV.ip:=by
 simp[yR,a,hr]
theorem rS1 {d:Nat} {f:FuncId} {a b a' b':aA AV} (h1:mapO (yR L d) a=some a') (h2:mapO (yR L d) b=some b'):yR L (d+1) (.fn (.func f) a b)=some (.fn (.func f) a' b'):=by
 simp[yR,h1,h2]
theorem iC1 {d:Nat} {a a':aA AV} (h1:mapO (yR L d) a=some a'):yR L (d+1) (.agg a)=some (.agg a'):=by
 simp[yR,h1]
theorem oS1 {x:PV} {y:AV} (h:RK x y):Oc L n0 y=some y:=by
 rcases h with h|⟨cs,cs',rfl,rfl,h⟩
 cases h<;>rfl;simp only[Oc,Gi h,xP2]
theorem bG1 {es:aA (PV×PV)} {es':aA (AV×AV)} (h:EM es es'):mapO (fun(k,x)=>match Oc L n0 k,Oc L n0 x with|some k,some x=>some (k,x)|_,_=>none) es'=some es':=
 zD fun p hp=>by
  obtain⟨j,c⟩:=xE2.1 hp
  have d:j<es.length:=by rw[h.1];exact(wI2.1 c).1
  obtain⟨h1,h2⟩:=h.2 j es[j] p (by simp) c
  obtain⟨a,b⟩:=p
  simp only[oS1 h1,oS1 h2]
end
section
variable {R:Type} {C:Cx} {n:Nat} {h:bC} {lim:Nat} {s:Hp}
theorem Gj:∀{d:Nat} {x:PV} {y:AV},dY d x=true->RC false x y->Sim.closed d y=true
 |0,_,_,h,_=>by simp[dY]at h
 |d+1,x,y,hc,hr=>by
  have all:∀{xs:aA PV} {ys:aA AV},xs.all (dY d)=true->LR (RC false) xs ys->ys.all (Sim.closed d)=true:=by
   intro xs ys c hl;rw[wR2];intro y hy;obtain⟨x,a,b⟩:=Ic hl hy;exact Gj (wR2.1 c x a) b
  cases hr with
  |fn h1 h2 v1 v2=>
   simp only[dY,wL2]at hc;simp only[Sim.closed,wL2];exact⟨all hc.1 ⟨h1,v1⟩,all hc.2 ⟨h2,v2⟩⟩
  |agg hl hcc=>
   simp only[dY]at hc;simp only[Sim.closed];exact all hc ⟨hl,hcc⟩
  |tup hl hcc=>
   simp only[dY]at hc;simp only[Sim.closed];exact all hc ⟨hl,hcc⟩
  |_=>rfl
def FzR (L:Nat->aB AO) (d:Nat) (a:PV) (y:AV):Prop:=∃b,yR L d y=some b/\RC false a b/\∀D,Sim.closed D y=true->RC false a y
theorem Tf (m:cY C n h lim s):∀(d:Nat) (x:PV) (y:AV) (K:PV->aB R) (r:R),Hw h d x K=some r->RV C x y->∃M,K M=some r/\FzR (Sim.look s.h) (d+1) M y
 |0,x,y,K,r,hk,_=>by unfold Hw at hk;exact aE hk
 |d+1,x,y,K,r,hk,hv=>by
  have i:∀(xs:aA PV) (ys:aA AV) (K:aA PV->aB R) (r:R),sD (Hw h d) xs K=some r->LR (RV C) xs ys->
    ∃xs' j,K xs'=some r/\mapO (yR (Sim.look s.h) (d+1)) ys=some j/\LR (RC false) xs' j/\((∀y∈ys,∃D,Sim.closed D y=true)->LR (RC false) xs' ys):=by
   intro xs
   induction xs with
   |nil=>
    intro ys K r hk hl;rw[hl.inv_nil];unfold sD at hk;exact⟨[],[],hk,rfl,.nil,fun _=>.nil⟩
   |cons a as ih=>
    intro ys K r hk hl;obtain⟨y,j,rfl,h1,h2⟩:=hl.inv_cons;unfold sD at hk;obtain⟨a',w,b',t,N,O⟩:=Tf m d a y _ r hk h1;obtain⟨B,E,q1,q2,q3,q4⟩:=ih j _ r w h2;refine⟨a'::B,b'::E,q1,by simp only[mapO,t,q2],.cons N q3,fun hc=>?_⟩;obtain⟨D,c⟩:=hc y (by simp);exact .cons (O D c) (q4 fun z p=>hc z (by simp[p]))
  unfold Hw at hk;cases x with
  |own k=>
   simp only[fS,wH2]at hk;obtain⟨ob,hg,hk⟩:=hk;cases ob with
   |lst ty e g rows=>
    refine⟨_,hk,?_⟩;rcases nG hv with⟨id,ver,F,len,l,rfl⟩|⟨l,rfl⟩
    obtain⟨_,rfl,hlen,els,q,hr,G,_⟩:=kJ m hg l;subst hlen;refine⟨.is F (els.take rows.length),?_,hr.is,fun D c=>by cases D<;>simp[Sim.closed]at c⟩;exact Td (d:=4) (xA2 _) q hr G;have:=lX m hg l;subst this;exact⟨_,rfl,.isn,fun _ _=>.isn⟩
   |lz ty e dp rows=>
    cases hb:Nat.ble dp 4 with
    |false=>simp only[hb,xO2]at hk;exact aE hk
    |true=>
    simp only[hb,wZ2]at hk;have hb:=wV2 hb;refine⟨_,hk,?_⟩;rcases nG hv with⟨id,ver,F,len,l,rfl⟩|⟨l,rfl⟩
    obtain⟨_,_,rfl,hlen,_,els,q,hr⟩:=yJ m hg l;subst hlen;obtain⟨A,w,t⟩:=oR1 (n0:=0) (f:=5) (fun id o p=>⟨xA2 _,(m.hr.zr id o p).1⟩) (by omega) (xA2 _) q hr;exact⟨.is F A,w,t.is,fun D c=>by cases D<;>simp[Sim.closed]at c⟩;have:=wU m hg l;subst this;exact⟨_,rfl,.isn,fun _ _=>.isn⟩
   |_=>exact aE hk
  |zs dp e rows=>
   cases hb:Nat.ble dp 5 with
   |false=>simp only[hb,xO2]at hk;exact aE hk
   |true=>
   simp only[hb,wZ2]at hk;have hb:=wV2 hb;refine⟨_,hk,?_⟩;have p:=Fz hv;obtain⟨S,w,t⟩:=Te (L:=Sim.look s.h) (n0:=0) (fun id o p=>⟨xA2 _,(m.hr.zr id o p).1⟩) dp 6 (by omega) _ _ p;rcases Ga p with(⟨rows',rfl,hr⟩|⟨rfl,rfl⟩)|⟨d',id,ver,ty,els,_,rfl,_,_,_⟩
   exact⟨_,rfl,hr.is,fun _ _=>hr.is⟩;exact⟨_,rfl,.isn,fun _ _=>.isn⟩;exact⟨S,w,t.weak,fun D c=>by cases D<;>simp[Sim.closed]at c⟩
  |map k=>
   simp only[fS,wH2]at hk;obtain⟨ob,hg,hk⟩:=hk;cases ob with
   |mp es=>
    refine⟨_,hk,?_⟩;obtain⟨id,ver,e,len,l,rfl⟩:=wS hv;obtain⟨_,es',q,he⟩:=Ls m hg l;refine⟨.im es',?_,he.er.im,fun D c=>by cases D<;>simp[Sim.closed]at c⟩;simp only[yR,q];exact congrArg (Option.map AV.im) (bG1 he)
   |_=>exact aE hk
  |ref k o=>
   simp only[fS,wH2]at hk;obtain⟨ob,hg,hk⟩:=hk;cases ob with
   |box cs=>
    obtain⟨w,t⟩:=eP _ _ _ _ hk;obtain⟨id,ver,e,len,l,rfl⟩:=lM hv;obtain⟨_,ty,esz,row,q,hl⟩:=tF m hg l;obtain⟨xs',j,q1,q2,q3,_⟩:=i _ _ _ r t (hl.drop o);refine⟨_,q1,.ip j,?_,.ip q3.1 q3.2,fun D c=>by cases D<;>simp[Sim.closed]at c⟩;rw[iB1 q rfl,q2];rfl
   |_=>exact aE hk
  |fn f a b=>
   obtain⟨a',b',rfl,h1,h2⟩:=yI hv;obtain⟨H,u,p1,p2,p3,p4⟩:=i _ _ _ r hk h1;obtain⟨P,J,q1,q2,q3,q4⟩:=i _ _ _ r p1 h2;refine⟨_,q1,.fn (.func f) u J,rS1 p2 q2,.fn p3.1 q3.1 p3.2 q3.2,fun D c=>?_⟩;cases D with
   |zero=>simp[Sim.closed]at c
   |succ D=>
    simp only[Sim.closed,wL2,wR2]at c;have w1:=p4 fun y hy=>⟨D,c.1 y hy⟩
    have w2:=q4 fun y hy=>⟨D,c.2 y hy⟩
    exact .fn w1.1 w2.1 w1.2 w2.2
  |agg cs=>
   obtain⟨cs',rfl,h1⟩:=nT hv;obtain⟨H,u,p1,p2,p3,p4⟩:=i _ _ _ r hk h1;refine⟨_,p1,.agg u,iC1 p2,.agg p3.1 p3.2,fun D c=>?_⟩;cases D with
   |zero=>simp[Sim.closed]at c
   |succ D=>
    simp only[Sim.closed,wR2]at c;have w1:=p4 fun y hy=>⟨D,c y hy⟩
    exact .agg w1.1 w1.2
  |v x=>
   rw[gG hv];exact⟨_,hk,_,rfl,.v x,fun _ _=>.v x⟩
  |is e rows=>
   refine⟨_,hk,?_⟩;rcases Bs hv with⟨rows',rfl,hr⟩|⟨rfl,rfl⟩
   exact⟨_,rfl,hr.is,fun _ _=>hr.is⟩;exact⟨_,rfl,.isn,fun _ _=>.isn⟩
  |ip cs=>
   obtain⟨cs',rfl,hl⟩:=Fy hv;exact⟨_,hk,_,rfl,.ip hl.1 hl.2,fun _ _=>.ip hl.1 hl.2⟩
  |im es=>
   obtain⟨es',rfl,he⟩:=oL1 hv;exact⟨_,hk,_,rfl,he.im,fun _ _=>he.im⟩
  |_=>exact aE hk
theorem yL (e:cY C n h lim s):∀(xs:aA PV) (ys:aA AV) (K:aA PV->aB R) (r:R),zB h xs K=some r->LR (RV C) xs ys->
  ∃xs' b,K xs'=some r/\mapO (yR (Sim.look s.h) 6) ys=some b/\LR (RC false) xs' b/\((∀y∈ys,∃D,Sim.closed D y=true)->LR (RC false) xs' ys)
 |[],ys,K,r,hk,hl=>by
  rw[hl.inv_nil]
  exact⟨[],[],hk,rfl,.nil,fun _=>.nil⟩
 |a::as,ys,K,r,hk,hl=>by
  obtain⟨y,b,rfl,h1,h2⟩:=hl.inv_cons
  unfold zB at hk
  obtain⟨a',i,b',j,k,l⟩:=Tf e 5 a y _ r hk h1
  obtain⟨c,d,q1,q2,q3,q4⟩:=yL e as b _ r i h2
  refine⟨a'::c,b'::d,q1,by simp only[mapO,j,q2],.cons k q3,fun hc=>?_⟩
  obtain⟨D,f⟩:=hc y (by simp)
  exact .cons (l D f) (q4 fun z g=>hc z (by simp[g]))
def oH (T:jA) (f:FuncId) (xs:aA PV) (v:PV):Prop:=
 ∃ifn,T f=some ifn/\ifn.pure=true/\(tC 4 v=true->ifn.frz=true)/\∀ys,LR (RC false) xs ys->∃D,∀d,D<=d->∃y,Sim.runP T (exec T d) f ifn ys=some y/\RC false v y
theorem bH1:∀{d:Nat} {x:PV} {y:AV},tC d x=true->RC false x y->Sim.gnd d y=true
 |0,_,_,h,_=>by simp[tC]at h
 |d+1,x,y,hc,hr=>by
  have all:∀{xs:aA PV} {ys:aA AV},xs.all (tC d)=true->LR (RC false) xs ys->ys.all (Sim.gnd d)=true:=by
   intro xs ys c hl;rw[wR2];intro y hy;obtain⟨x,a,b⟩:=Ic hl hy;exact bH1 (wR2.1 c x a) b
  cases hr with
  |v x=>rfl
  |agg hl hcc=>simp only[tC]at hc;simp only[Sim.gnd];exact all hc ⟨hl,hcc⟩
  |tup hl hcc=>simp only[tC]at hc;simp only[Sim.gnd];exact all hc ⟨hl,hcc⟩
  |_=>simp[tC]at hc
theorem Lx {T:jA} {O:tW} (q:∀f xs v,O f xs=some v->oH T f xs v) (t:cY C n h lim s) {f:FuncId} {xs:aA PV} {ys:aA AV} {K:PV->aB R} {r:R} (hk:yF O f xs h K=some r) (o:LR (RV C) xs ys):
  ∃v y,K v=some r/\RC false v y/\(∃ifn,T f=some ifn/\ifn.pure=true)/\∃D,∀d,D<=d->∀m,Sim.callF T (exec T d) lim f ys {h:=s.h,n:=m}=some (y,{h:=s.h,n:=m}):=by
 unfold yF at hk;by_cases hc:xs.all (dY 4)=true;rw[hc,wZ2,cH,wH2]at hk;obtain⟨v,hv,hk⟩:=hk;rw[Sw]at hk;obtain⟨ifn,h1,h2,h3,h4⟩:=q f xs v hv;have i:LR (RC false) xs ys:=⟨o.1,fun j x y a b=>Ge (o.2 j x y a b) (wR2.1 hc x (wT2 a))⟩
 have c:ys.all (Sim.closed 4)=true:=by
  rw[wR2];intro y hy;obtain⟨x,u,w⟩:=Ic i hy;exact Gj (wR2.1 hc x u) w
 obtain⟨D,g⟩:=h4 ys i;obtain⟨y,k,e⟩:=g D (wK2 _);refine⟨v,y,hk,e,⟨ifn,h1,h2⟩,D,fun d hd m=>?_⟩;simp only[Sim.callF,h1,h2,xM2,c,Sim.mono_runP (Sim.mono_le T hd) k,xP2];simp only[Bool.not_eq_true]at hc;rw[hc,xO2]at hk;obtain⟨xs',p,q1,q2,q3,q4⟩:=yL t xs ys _ r hk o;rw[cH,wH2]at q1;obtain⟨v,hv,q1⟩:=q1;rw[Sw]at q1;cases hg:tC 4 v with
 |false=>rw[hg]at q1;exact aE q1
 |true=>
  rw[hg,wZ2]at q1;obtain⟨ifn,h1,h2,h3,h4⟩:=q f xs' v hv;by_cases c:ys.all (Sim.closed 4)=true;obtain⟨D,g⟩:=h4 ys (q4 fun y hy=>⟨4,wR2.1 c y hy⟩);obtain⟨y,k,e⟩:=g D (wK2 _);refine⟨v,y,q1,e,⟨ifn,h1,h2⟩,D,fun d hd m=>?_⟩;simp only[Sim.callF,h1,h2,xM2,c,Sim.mono_runP (Sim.mono_le T hd) k,xP2];obtain⟨D,g⟩:=h4 p q3;obtain⟨y,k,e⟩:=g D (wK2 _);have l:=bH1 hg e;refine⟨v,y,q1,e,⟨ifn,h1,h2⟩,D,fun d hd m=>?_⟩;simp only[Sim.callF,h1,h2,h3 hg,xM2,q2,Sim.mono_runP (Sim.mono_le T hd) k,l];rw[wN2 c]
end
end Go.P
namespace Go.P
open Go.Sim (AV AO Hp gP upd St IC IX Ex fC CK Wf Out doOp jA exec)
section
variable {R:Type} {C:Cx} {n:Nat} {h:bC} {lim:Nat} {s:Hp}
def lZ (k:Nat) (C C':Cx):Prop:=(∀j,j≠k->C' j=C j)/\∀id o,C.z id=some o->C'.z id=some o
theorem Ly {C':Cx} {k:Nat} (m:lZ k C C'):∀(d:Nat) (x:PV) (y:AV) (K:PV->aB R) (r:R),eH k d x K=some r->RV C x y->∃q,K q=some r/\RV C' q y
 |0,x,y,K,r,hk,_=>by unfold eH at hk;exact⟨_,hk,.undef⟩
 |d+1,x,y,K,r,hk,hv=>by
  have c:∀(xs:aA PV) (ys:aA AV) (K:aA PV->aB R) (r:R),eH.kills k d xs K=some r->LR (RV C) xs ys->∃xs',K xs'=some r/\LR (RV C') xs' ys:=by
   intro xs
   induction xs with
   |nil=>
    intro ys K r hk hl;rw[hl.inv_nil];unfold eH.kills at hk;exact⟨[],hk,.nil⟩
   |cons a as ih=>
    intro ys K r hk hl;obtain⟨y,p,rfl,h1,h2⟩:=hl.inv_cons;unfold eH.kills at hk;obtain⟨a',t,u⟩:=Ly m d a y _ r hk h1;obtain⟨n,q1,q2⟩:=ih p _ r t h2;exact⟨a'::n,q1,.cons u q2⟩
  have other:∀{pl:aB Pl} {j:Nat},C j=pl->j≠k->C' j=pl:=fun h s=>(m.1 _ s).trans h;unfold eH at hk;cases x with
  |zs d e rows=>exact⟨_,hk,.zs (RZ.mono m.2 (Fz hv))⟩
  |zm es=>
   rcases oM1 hv with⟨id,es',rfl,h1,h2⟩|⟨rfl,rfl⟩
   exact⟨_,hk,.zm (m.2 _ _ h1) h2⟩;exact⟨_,hk,.zm0⟩
  |own j=>
   simp only[bZ]at hk;by_cases e:j=k;rw[xX2 e]at hk;exact⟨_,hk,.undef⟩;rw[yC2 e]at hk;refine⟨_,hk,?_⟩;rcases nG hv with⟨id,ver,l,len,hc,rfl⟩|⟨hc,hy⟩
   exact .own (other hc e);exact .ownn (other hc e) hy
  |el j i o=>
   simp only[bZ]at hk;by_cases e:j=k;rw[xX2 e]at hk;exact⟨_,hk,.undef⟩;rw[yC2 e]at hk;obtain⟨id,ver,l,len,hc,rfl⟩:=Bt hv;exact⟨_,hk,.el (other hc e)⟩
  |fn f a b=>
   obtain⟨a',b',rfl,h1,h2⟩:=yI hv;obtain⟨g,p1,p2⟩:=c _ _ _ r hk h1;obtain⟨w,q1,q2⟩:=c _ _ _ r p1 h2;exact⟨_,q1,.fn p2.1 q2.1 p2.2 q2.2⟩
  |agg cs=>
   obtain⟨cs',rfl,h1⟩:=nT hv;obtain⟨g,p1,p2⟩:=c _ _ _ r hk h1;exact⟨_,p1,.agg p2.1 p2.2⟩
  |tup cs=>
   obtain⟨cs',rfl,h1⟩:=Pz hv;obtain⟨g,p1,p2⟩:=c _ _ _ r hk h1;exact⟨_,p1,.tup p2.1 p2.2⟩
  |ref j o=>
   simp only[bZ]at hk;by_cases e:j=k;rw[xX2 e]at hk;exact⟨_,hk,.undef⟩;rw[yC2 e]at hk;obtain⟨id,ver,l,len,hc,rfl⟩:=lM hv;exact⟨_,hk,.ref (other hc e)⟩
  |map j=>
   simp only[bZ]at hk;by_cases e:j=k;rw[xX2 e]at hk;exact⟨_,hk,.undef⟩;rw[yC2 e]at hk;obtain⟨id,ver,l,len,hc,rfl⟩:=wS hv;exact⟨_,hk,.map (other hc e)⟩
  |yld j=>
   simp only[bZ]at hk;by_cases e:j=k;rw[xX2 e]at hk;exact⟨_,hk,.undef⟩;rw[yC2 e]at hk;obtain⟨id,ver,l,len,hc,rfl⟩:=Hy hv;exact⟨_,hk,.yld (other hc e)⟩
  |v x=>rw[gG hv];exact⟨_,hk,.cl (.v x)⟩
  |is e rows=>exact⟨_,hk,.cl (by cases hv with|cl h=>exact h)⟩
  |ip cs=>exact⟨_,hk,.cl (by cases hv with|cl h=>exact h)⟩
  |im es=>exact⟨_,hk,.cl (by cases hv with|cl h=>exact h)⟩
  |undef=>exact⟨_,hk,.undef⟩
theorem Lz {k:Nat}:∀(d:Nat) (x:PV) (K:PV->aB R) (r:R),eH k d x K=some r->∃g,K g=some r/\∀{C C':Cx} {y:AV},lZ k C C'->RV C x y->RV C' g y
  |d,x,K,r,hk=>by
    have det:∃g,(∀{R:Type} (K:PV->aB R),eH k d x K=K g):=by
      have p:∀(d:Nat) (x:PV),∃g,∀{R:Type} (K:PV->aB R),eH k d x K=K g:=by
        intro d
        induction d with
        |zero=>intro x;exact⟨.undef,fun K=>by unfold eH;rfl⟩
        |succ d ih=>
          have c:∀(xs:aA PV),∃xs',∀{R:Type} (K:aA PV->aB R),eH.kills k d xs K=K xs':=by
            intro xs
            induction xs with
            |nil=>exact⟨[],fun K=>by unfold eH.kills;rfl⟩
            |cons a as ihl=>
              obtain⟨a',h⟩:=ih a;obtain⟨m,n⟩:=ihl;exact⟨a'::m,fun K=>by unfold eH.kills;rw[h,n]⟩
          intro x;cases x with
          | own j => by_cases e:j=k
                     exact⟨.undef,fun K=>by unfold eH;simp[bZ,e]⟩;exact⟨.own j,fun K=>by unfold eH;simp[bZ,e]⟩
          | el j i o => by_cases e:j=k
                        exact⟨.undef,fun K=>by unfold eH;simp[bZ,e]⟩;exact⟨.el j i o,fun K=>by unfold eH;simp[bZ,e]⟩
          | ref j o => by_cases e:j=k
                       exact⟨.undef,fun K=>by unfold eH;simp[bZ,e]⟩;exact⟨.ref j o,fun K=>by unfold eH;simp[bZ,e]⟩
          |zs d e rows=>exact⟨.zs d e rows,fun K=>by unfold eH;rfl⟩
          |zm es=>exact⟨.zm es,fun K=>by unfold eH;rfl⟩
          | map j => by_cases e:j=k
                     exact⟨.undef,fun K=>by unfold eH;simp[bZ,e]⟩;exact⟨.map j,fun K=>by unfold eH;simp[bZ,e]⟩
          | yld j => by_cases e:j=k
                     exact⟨.undef,fun K=>by unfold eH;simp[bZ,e]⟩;exact⟨.yld j,fun K=>by unfold eH;simp[bZ,e]⟩
          |fn f a b=>
            obtain⟨a',h⟩:=c a;obtain⟨b',hb⟩:=c b;exact⟨.fn f a' b',fun K=>by unfold eH;simp only[h,hb]⟩
          |agg cs=>
            obtain⟨a',h⟩:=c cs;exact⟨.agg a',fun K=>by unfold eH;simp only[h]⟩
          |tup cs=>
            obtain⟨a',h⟩:=c cs;exact⟨.tup a',fun K=>by unfold eH;simp only[h]⟩
          |v x=>exact⟨.v x,fun K=>by unfold eH;rfl⟩
          |is e rows=>exact⟨.is e rows,fun K=>by unfold eH;rfl⟩
          |ip cs=>exact⟨.ip cs,fun K=>by unfold eH;rfl⟩
          |im es=>exact⟨.im es,fun K=>by unfold eH;rfl⟩
          |undef=>exact⟨.undef,fun K=>by unfold eH;rfl⟩
      exact p d x
    obtain⟨g,l⟩:=det;refine⟨g,by rw[<-hk];exact(l K).symm,fun{C C' y} q hv=>?_⟩;obtain⟨x2,h1,h2⟩:=Ly (R:=PV) q d x y some g (l some) hv;cases h1;exact h2
def wK1 (k:Nat) (e e':fH):Prop:=∀i v',eW e' i=some v'->∃v,eW e i=some v/\∀{C C':Cx} {y:AV},lZ k C C'->RV C v y->RV C' v' y
theorem kX {k:Nat}:∀(e:fH) (K:fH->aB R) (r:R),pQ k e K=some r->∃e',K e'=some r/\wK1 k e e'
 |[],K,r,hk=>⟨[],hk,fun i v h=>by simp[eW]at h⟩
 |(j,v)::t,K,r,hk=>by
  unfold pQ at hk
  obtain⟨v',a,c⟩:=Lz 3 v _ r hk
  obtain⟨b,q1,q2⟩:=kX t _ r a
  refine⟨(j,v')::b,q1,fun i w hw=>?_⟩
  simp only[eW]at hw ⊢
  split at hw
  grind
  rename_i e;rw[wN2 e];exact q2 i w hw
def Cd (k:Nat) (h h':bC):Prop:=(∀j,aO h' j=none↔aO h j=none)/\∀j o',aO h' j=some o'->∃o,aO h j=some o/\gB o'=gB o/\
 ∀{C C':Cx} {L:Nat->aB AO} {lim nS:Nat} {pl:Pl},lZ k C C'->kT C L lim nS o pl->kT C' L lim nS o' pl
theorem Ce {k d:Nat}:∀(xs:aA PV) (K:aA PV->aB R) (r:R),eH.kills k d xs K=some r->∃xs',K xs'=some r/\∀{C C':Cx} {ys:aA AV},lZ k C C'->LR (RV C) xs ys->LR (RV C') xs' ys
 |[],K,r,hk=>by
  unfold eH.kills at hk
  exact⟨[],hk,fun _ hl=>by rw[hl.inv_nil];exact .nil⟩
 |a::as,K,r,hk=>by
  unfold eH.kills at hk
  obtain⟨a',e,f⟩:=Lz d a _ r hk
  obtain⟨b,q1,q2⟩:=Ce as _ r e
  refine⟨a'::b,q1,fun c hl=>?_⟩
  obtain⟨y,g,rfl,h1,h2⟩:=hl.inv_cons
  exact .cons (f c h1) (q2 c h2)
theorem rT1 {C C':Cx} {fs b:aA PV} {els:aA (aA AV)} (h:∀{ys:aA AV},LR (RV C) fs ys->LR (RV C') b ys) (hl:els.length=fs.length) (hr:∀(i:Nat) (f:PV) (row:aA AV),fs[i]? =some f->els[i]? =some row->LR (RV C) [f] row):
  fs.length=b.length/\els.length=b.length/\∀(i:Nat) (f:PV) (row:aA AV),b[i]? =some f->els[i]? =some row->LR (RV C') [f] row:=by
 have hy:=h (ys:=els.map fun r=>r.headD default) ⟨by simp[hl],fun j x y l hy=>by
  simp only[xN2,wM2]at hy;obtain⟨row,a,rfl⟩:=hy;obtain⟨y,e,rfl,g,k⟩:=(hr j x row l a).inv_cons;exact g⟩
 have hlen:b.length=els.length:=by simpa using hy.1
 refine⟨by omega,by omega,fun i f row hf a=>?_⟩
 have d:∃f0,fs[i]? =some f0:=by
  have:=(wI2.1 a).1;exact⟨fs[i]'(by omega),by simp⟩
 obtain⟨f0,c⟩:=d;obtain⟨y,e,rfl,g,k⟩:=(hr i f0 row c a).inv_cons;rw[k.inv_nil];exact .cons (hy.2 i f y hf (by simp[xN2,a])) .nil
theorem mG {k:Nat}:∀(h:bC) (K:bC->aB R) (r:R),lF k h K=some r->∃h',K h'=some r/\Cd k h h'
 |[],K,r,hk=>⟨[],hk,fun j=>Iff.rfl,fun j o h=>by simp[aO]at h⟩
 |(j,o)::t,K,r,hk=>by
  have fin:∀(o':fQ),lF k t (fun r=>K ((j,o')::r))=some r->gB o'=gB o->(∀{C C':Cx} {L:Nat->aB AO} {lim nS:Nat} {pl:Pl},lZ k C C'->kT C L lim nS o pl->kT C' L lim nS o' pl)->∃h',K h'=some r/\Cd k ((j,o)::t) h':=by
   intro o' hk hb d;obtain⟨s,q1,q2,q3⟩:=mG t _ r hk;refine⟨(j,o')::s,q1,fun i=>?_,fun i w hw=>?_⟩;simp only[aO];split;simp;exact q2 i;simp only[aO]at hw ⊢;split at hw
   grind
   grind
  unfold lF at hk;cases o with
  |box cs=>
   obtain⟨cs',m,n⟩:=Ce cs _ r hk;refine fin _ m rfl (fun{C C' L lim nS pl} f d=>?_);cases pl with
   |nil=>exact d
   |atp id ver e len=>
    obtain⟨h1,h2,ty,esz,row,h3,h4⟩:=d;exact⟨h1,h2,ty,esz,row,h3,n f h4⟩
  |lst ty e g rows=>exact fin _ hk rfl (fun{C C' L lim nS pl} f d=>by cases pl<;>exact d)
  |lz ty e dp rows=>
   refine fin _ hk rfl (fun{C C' L lim nS pl} f d=>?_);cases pl with
   |nil=>exact d
   |atp id ver e3 len=>
    obtain⟨h1,h2,h3,h4,h5,els,l,p⟩:=d;exact⟨h1,h2,h3,h4,h5,els,l,p.mono f.2⟩
  |mp es=>exact fin _ hk rfl (fun{C C' L lim nS pl} f d=>by cases pl<;>exact d)
  |fl fs=>
   obtain⟨q,m,n⟩:=Ce fs _ r hk;refine fin _ m rfl (fun{C C' L lim nS pl} f d=>?_);cases pl with
   |nil=>exact d
   |atp id ver e len=>
    obtain⟨h1,h2,h3,h4,ty,els,h5,l,p⟩:=d;obtain⟨a,b,c⟩:=rT1 (n f) l p;exact⟨h1,h2,h3,by rw[h4,a],ty,els,h5,b,c⟩
  |loop N e ps a b busy fi=>
   obtain⟨e',m,n⟩:=kX e _ r hk;refine fin _ m rfl (fun{C C' L lim nS pl} f d=>?_);cases pl with
   |nil=>exact d
   |atp id ver e3 len=>
    obtain⟨h1,h2,st,pend,tmps,h3,h4,h5,l⟩:=d;refine⟨h1,h2,st,pend,tmps,h3,h4,fun i v hv=>?_,l⟩;obtain⟨w,w1,w2⟩:=n i v hv;obtain⟨y,u,x⟩:=h5 i w w1;exact⟨y,u,w2 f x⟩
theorem bI1 (c:cY C n h lim s) {e:Nat} {x:PV} {y:AV} {K:aA (aA PV)->aB R} {r:R} (hk:aJ1 h e x K=some r) (hv:RV C x y):∃rows rows',K rows=some r/\Sim.rowsOf (Sim.look s.h) e y=some rows'/\RR rows rows':=by
 unfold aJ1 at hk;split at hk;rename_i e' rows;rw[bZ]at hk;by_cases a:e'=e;subst a;rw[xX2 rfl,wZ2]at hk;rcases Sy hv with⟨rows',rfl,hr⟩|⟨rfl,rfl|rfl⟩
 exact⟨rows,rows',hk,by simp[Sim.rowsOf],hr⟩;exact⟨[],[],hk,rfl,.nil⟩;exact⟨[],[],hk,rfl,.nil⟩
 grind
 rename_i k;simp only[fS,wH2]at hk;obtain⟨ob,hg,hk⟩:=hk;cases ob with
 |lst ty e' g rows=>
  simp only[bZ]at hk;by_cases a:e'=e;subst a;rw[xX2 rfl,wZ2]at hk;rcases jP hv with⟨id,ver,i,len,b,rfl⟩|⟨b,hy⟩
  obtain⟨_,rfl,hlen,els,d,hr,f,_⟩:=kJ c hg b;subst hlen;refine⟨rows,els.take rows.length,hk,?_,hr⟩;simp only[Sim.rowsOf,d];rw[wO2 ⟨by trivial,by trivial,by omega⟩,yH2];have:=lX c hg b;subst this;rcases hy with rfl|rfl;exact⟨[],[],hk,rfl,.nil⟩;exact⟨[],[],hk,rfl,.nil⟩
  grind
 |_=>exact aE hk
 rw[gG hv];exact⟨[],[],hk,rfl,.nil⟩;exact aE hk
def mv (C:Cx) (k:Nat) (pl:Pl):Cx:=⟨fun j=>if j=k then some pl else C j,C.z⟩
theorem hZ (C:Cx) (k:Nat) (pl:Pl):lZ k C (mv C k pl):=⟨fun j a=>wN2 a,fun _ _ h=>h⟩
theorem sN (C:Cx) (k:Nat) (pl:Pl):mv C k pl k=some pl:=wO2 rfl
theorem lZ.self {k:Nat} {C:Cx}:lZ k C C:=⟨fun _ _=>rfl,fun _ _ h=>h⟩
theorem Ie {k:Nat} {po po':fQ} {h1:bC} {C':Cx} (hg:aO h k=some po) (hkl:Cd k h h1) (hb:gB po'=false) (c:lZ k C C'):
  ∀j o,aO h j=some o->∃o',aO (fR h1 k po') j=some o'/\(gB o'=true->gB o=true/\C' j=C j):=by
 intro j o a
 have d:(aO h1 k).isSome=true:=by
  cases hc:aO h1 k with
  |none=>rw[(hkl.1 k).1 hc]at hg;cases hg
  |some o=>rfl
 rw[gU];by_cases b:j=k
 grind
 rw[wN2 (fun h=>b h.1)];cases hc:aO h1 j with
 |none=>rw[(hkl.1 j).1 hc]at a;cases a
 |some o'=>
  obtain⟨f,q1,e,_⟩:=hkl.2 j o' hc;rw[a]at q1;cases q1;exact⟨o',rfl,fun h=>⟨by rw[<-e];exact h,c.1 j b⟩⟩
theorem Ma (p:cY C n h lim s) {k id ver e len} {po po2:fQ} {h1:bC} {s':Hp} (hg:aO h k=some po) (hkl:Cd k h h1)
  (hs:s.n<=s'.n) (hw:Wf s'.h s'.n) (A:Sk s.h s'.h s.n) (b:∀i,i<s.n->i≠id->Sim.look s'.h i=Sim.look s.h i) (a:s.n<=id\/∃v e l,C k=some (.atp id v e l))
  (F:kT (mv C k (.atp id ver e len)) (Sim.look s'.h) lim s'.n po2 (.atp id ver e len)) (hfx:gB po2=false):
  cY (mv C k (.atp id ver e len)) n (fR h1 k po2) lim s'/\Fr C h s (mv C k (.atp id ver e len)) (fR h1 k po2) s':=by
 have y:(aO h1 k).isSome=true:=by
  cases hc:aO h1 k with
  |none=>rw[(hkl.1 k).1 hc]at hg;cases hg
  |some o=>rfl
 have f:∀j,aO (fR h1 k po2) j=if j=k then some po2 else aO h1 j:=fun j=>by
  rw[gU];simp[y]
 have c:∀j,aO (fR h1 k po2) j≠none->aO h j≠none:=fun j d=>by
  rw[f]at d;split at d
  grind
  exact fun hc=>d ((hkl.1 j).2 hc)
 have g:∀j v e l,j≠k->aO h j≠none->C j≠some (.atp id v e l):=by
  intro j v e2 l d D hc;rcases a with a|⟨v',e',l',a⟩
  have:=(p.hr.lt D hc).2;omega;exact d (p.hr.inj j k id _ _ _ _ _ _ D (by rw[hg];simp) hc a)
 refine⟨⟨⟨fun j o d=>?_,fun j q i v1 m x v2 e2 H a1 a2 a3 a4=>?_,fun i o G=>?_⟩,fun j pl d=>?_,hw,xJ2 p.lim hs⟩,⟨A,hs,fun i hi z=>b i hi (fun m=>z ?_),fun i hi z=>?_,Ie hg hkl hfx (hZ C k _),fun _ _ h=>h,fun _ _ h=>.inl h⟩⟩;rw[f]at d;split at d;rename_i m;subst m;cases d;exact⟨_,sN C j _,F⟩;rename_i u;obtain⟨J,q1,K,q2⟩:=hkl.2 j o d;obtain⟨pl,t,w⟩:=p.hr.ob j J q1;refine⟨pl,((hZ C k _).1 j u).trans t,?_⟩;have E:kT (mv C k (.atp id ver e len)) (Sim.look s.h) lim s.n o pl:=q2 (hZ C k _) w;refine E.mono hs (.refl _) (fun i v1 m x hp=>?_);subst hp;exact b i E.lt.2 (fun e2=>by subst e2;exact g j _ _ _ u (by rw[q1];simp) t);by_cases b1:j=k;by_cases b2:q=k;rw[b1,b2];exfalso;subst b1;rw[sN]at a3;cases a3;rw[(hZ C j _).1 q b2]at a4;exact g q _ _ _ b2 (c q a2) a4;by_cases b2:q=k;exfalso;subst b2;rw[sN]at a4;cases a4;rw[(hZ C q _).1 j b1]at a3;exact g j _ _ _ b1 (c j a1) a3;rw[(hZ C k _).1 j b1]at a3;rw[(hZ C k _).1 q b2]at a4;exact p.hr.inj j q i v1 m x v2 e2 H (c j a1) (c q a2) a3 a4;obtain⟨z1,z2,z3,z4⟩:=p.hr.zr i o G;have r:i≠id:=fun m=>by grind
 refine⟨(b i z2 r).trans z1,yU2 z2 hs,fun j v e' l h1 h2=>?_,z4⟩;by_cases b1:j=k;subst b1;rw[sN]at h2;cases h2;exact r rfl;exact z3 j v e' l (c j h1) (((hZ C k _).1 j b1).symm.trans h2);by_cases b1:j=k;subst b1;obtain⟨B,t,_⟩:=p.hr.ob j _ hg;exact p.dom j B t;exact p.dom j pl (((hZ C k _).1 j b1).symm.trans d);subst m;rcases a with a|⟨v',e',l',a⟩
 omega;exact⟨k,v',e',l',by rw[hg];simp,a⟩;obtain⟨j,v1,m,x,t,w⟩:=z;by_cases b1:j=k;subst b1;rw[sN]at w;cases w;rcases a with a|⟨v',e',l',a⟩
 omega;exact⟨j,v',e',l',by rw[hg];simp,a⟩;exact⟨j,v1,m,x,c j t,((hZ C k _).1 j b1).symm.trans w⟩
end
end Go.P
namespace Go.P
open Go.Sim (AV AO Hp gP upd St IC IX Ex fC CK Wf Out doOp jA exec)
theorem dT.mono {C C':Cx} {e:fH} {t:aA AV} (h:dT C e t) (a:C.le C'):dT C' e t:=fun i v hv=>by
 obtain⟨y,h1,h2⟩:=h i v hv
 exact⟨y,h1,h2.mono a⟩
theorem dT.put {C':Cx} {e':fH} {t:aA AV} {d:Nat} {v:PV} {y:AV} (hd:d<t.length) (hv:RV C' v y) (he:∀i w,eW e' i=some w->∃z,t[i]? =some z/\RV C' w z/\i≠d):dT C' ((d,v)::e') (t.set d y):=by
 intro i w hw;simp only[eW]at hw;split at hw
 grind
 grind
theorem dT.edel {C:Cx} {e:fH} {t:aA AV} (h:dT C e t) (is:aA Nat):∀i w,eW (edel e is) i=some w->∃z,t[i]? =some z/\RV C w z/\i∉is:=fun i w hw=>by
 rw[wQ]at hw
 split at hw
 cases hw
 rename_i hi
 obtain⟨z,h1,h2⟩:=h i w hw
 exact⟨z,h1,h2,hi⟩
section
variable {R:Type} {C:Cx} {n:Nat} {h:bC} {lim:Nat} {s:Hp}
theorem Tg (d:cY C n h lim s) {k:Nat} {po:fQ} {h1:bC} (hg:aO h k=some po) (hkl:Cd k h h1) (hb:gB po=false):cY C n (fR h1 k po) lim s/\Fr C h s C (fR h1 k po) s:=by
 have g:(aO h1 k).isSome=true:=by
  cases hc:aO h1 k with
  |none=>rw[(hkl.1 k).1 hc]at hg;cases hg
  |some o=>rfl
 have a:∀j,aO (fR h1 k po) j=if j=k then some po else aO h1 j:=fun j=>by
  rw[gU];simp[g]
 have b:∀j,aO (fR h1 k po) j≠none->aO h j≠none:=fun j c=>by
  rw[a]at c;split at c
  grind
  exact fun hc=>c ((hkl.1 j).2 hc)
 refine⟨⟨⟨fun j o c=>?_,fun j r i v1 f q v2 e2 w a1 a2 a3 a4=>d.hr.inj j r i v1 f q v2 e2 w (b j a1) (b r a2) a3 a4,fun i o u=>?_⟩,d.dom,d.wf,d.lim⟩,⟨.refl _ _,wK2 _,fun _ _ _=>rfl,fun i hi t=>?_,Ie hg hkl hb lZ.self,fun _ _ h=>h,fun _ _ h=>.inl h⟩⟩;rw[a]at c;split at c;rename_i f;subst f;cases c;exact d.hr.ob j _ hg;obtain⟨x,q1,y,q2⟩:=hkl.2 j o c;obtain⟨pl,m,p⟩:=d.hr.ob j x q1;exact⟨pl,m,q2 lZ.self p⟩;obtain⟨z1,z2,z3,z4⟩:=d.hr.zr i o u;exact⟨z1,z2,fun j v e l h1 h2=>z3 j v e l (b j h1) h2,z4⟩;obtain⟨j,v1,f,q,m,p⟩:=t;exact⟨j,v1,f,q,b j m,p⟩
theorem Wi (c:cY C n h lim s) {e dp:Nat} {x:PV} {y:AV} {K:aA (aA PV)->aB R} {r:R} (hk:So h e dp x K=some r) (hv:RV C x y):∃rows rows',K rows=some r/\Sim.rowsOf (Sim.look s.h) e y=some rows'/\Fv C.z dp rows rows':=by
 unfold So at hk;split at hk;rename_i e' rows;rw[bZ]at hk;by_cases a:e'=e;subst a;rw[xX2 rfl,wZ2]at hk;rcases Sy hv with⟨rows',rfl,hr⟩|⟨rfl,rfl|rfl⟩
 exact⟨rows,rows',hk,by simp[Sim.rowsOf],hr.z⟩;exact⟨[],[],hk,rfl,.nil⟩;exact⟨[],[],hk,rfl,.nil⟩
 grind
 rename_i k;simp only[fS,wH2]at hk;obtain⟨ob,hg,hk⟩:=hk;cases ob with
 |lst ty e' g rows=>
  simp only[bZ]at hk;by_cases a:e'=e;subst a;rw[xX2 rfl,wZ2]at hk;rcases jP hv with⟨id,ver,i,len,b,rfl⟩|⟨b,hy⟩
  obtain⟨_,rfl,hlen,els,f,hr,j,_⟩:=kJ c hg b;subst hlen;refine⟨rows,els.take rows.length,hk,?_,hr.z⟩;simp only[Sim.rowsOf,f];rw[wO2 ⟨by trivial,by trivial,by omega⟩,yH2];have:=lX c hg b;subst this;rcases hy with rfl|rfl;exact⟨[],[],hk,rfl,.nil⟩;exact⟨[],[],hk,rfl,.nil⟩
  grind
 |lz ty e' dp' rows=>
  simp only at hk;cases hc:(Nat.beq e' e&&Nat.ble dp' dp)with
  |false=>rw[hc]at hk;exact aE hk
  |true=>
   rw[hc,wZ2]at hk;simp only[wL2]at hc;have a:=xB2 hc.1;have e2:=wV2 hc.2;subst a;rcases jP hv with⟨id,ver,i,len,b,rfl⟩|⟨b,hy⟩
   obtain⟨_,_,rfl,hlen,_,els,f,hr⟩:=yJ c hg b;subst hlen;refine⟨rows,els,hk,?_,hr.up e2⟩;have hl:=hr.1;simp only[Sim.rowsOf,f];rw[wO2 ⟨by trivial,by trivial,by omega⟩,yH2,hl,zC2];have:=wU c hg b;subst this;rcases hy with rfl|rfl;exact⟨[],[],hk,rfl,.nil⟩;exact⟨[],[],hk,rfl,.nil⟩
 |_=>exact aE hk
 rename_i d e' rows;cases hc:(Nat.beq e' e&&Nat.ble d (dp+1))with
 |false=>rw[hc]at hk;exact aE hk
 |true=>
  rw[hc,wZ2]at hk;simp only[wL2]at hc;have a:=xB2 hc.1;have e2:=wV2 hc.2;subst a;rcases Ga (Fz hv)with(⟨rows',rfl,hr⟩|⟨rfl,rfl⟩)|⟨d',id,ver,ty,els,rfl,rfl,hz,hl,hr⟩
  exact⟨rows,rows',hk,by simp[Sim.rowsOf],hr.z⟩;exact⟨[],[],hk,rfl,.nil⟩;refine⟨rows,els.take rows.length,hk,?_,hr.up (by omega)⟩;simp only[Sim.rowsOf,(c.hr.zr id _ hz).1];rw[wO2 ⟨by trivial,by trivial,by omega⟩,yH2]
 rw[gG hv];exact⟨[],[],hk,rfl,.nil⟩;exact aE hk
theorem bJ1 (l:cY C n h lim s) {e:fH} {t:aA AV} {d ty es b k ty' es' dp:Nat} {rows:aA (aA PV)} {zero:aA Value} {kill:aA Nat} {x2:PV} {A S:AV} {K:fH->bC->aB R} {r:R} (he:dT C e t) (hd:d<t.length) (h1:RV C (.own k) A) (h2:RV C x2 S)
  (hg:aO h k=some (.lz ty' es' dp rows))
  (hk:(So h es dp x2 fun new=>bif Nat.beq es' es&&(Nat.beq ty' ty&& !(iC ty'))then cQ (appRows false rows new) fun rows=>
    jF e (d::kill) fun e=>pQ k e fun e=>lF k h fun h=>iM h k (.lz ty' es' dp rows) fun h=>K ((d,.own k)::e) h
   else none)=some r):
  ∃C' e' h' out,K e' h'=some r/\doOp (Sim.look s.h) lim s.n (.append ty es b zero false) [A,S]=some out/\cY C' n h' lim (out.apply s)/\dT C' e' (t.set d out.v)/\Fr C h s C' h' (out.apply s):=by
 have Z:=Wi l hk h2;clear hk;obtain⟨new,a,hk,O,o⟩:=Z;by_cases hc:(Nat.beq es' es&&(Nat.beq ty' ty&& !(iC ty')))=true;simp only[hc,wZ2,cH,wH2]at hk;simp only[wL2,bZ,wS2,xG2]at hc;obtain⟨rfl,rfl,hfx⟩:=hc;obtain⟨y,c,hk⟩:=hk;rw[eY]at hk;obtain⟨e2,hk,M⟩:=kX _ _ _ hk;obtain⟨W,hk,u⟩:=mG _ _ _ hk;have hk:=eQ _ _ _ _ _ hk;unfold appRows at c;split at c;rename_i P;obtain rfl:rows++new=y:=yK2 c
 have m:∀{C':Cx},lZ k C C'->∀i w,eW e2 i=some w->∃z,t[i]? =some z/\RV C' w z/\i≠d:=by
  intro C' j i w hw;obtain⟨v,q1,q2⟩:=M i w hw;obtain⟨z,p1,p2,p3⟩:=he.edel (d::kill) i v q1;exact⟨z,p1,q2 j p2,fun V=>p3 (by simp[V])⟩
 have q:∀out,Sim.appendTo (Sim.look s.h) lim s.n ty' es' A a=some out->(∀z id ver off len cap,out.v=.sl z id ver off len cap->len<=Sim.maxRoom)->doOp (Sim.look s.h) lim s.n (.append ty' es' b zero false) [A,S]=some out:=by
  intro out X hl;simp only[doOp,Sim.appRows,wU2,xQ2,O,X];split;rename_i hv;rw[wO2 ⟨hl _ _ _ _ _ _ hv,by rw[<-o.1];omega⟩];rfl
 have hlen:=o.1;by_cases D:a=[];subst D;have E:new=[]:=by simpa using hlen
 subst E;rw[zP2]at hk;obtain⟨F,G⟩:=Tg l hg u rfl;refine⟨C,_,_,{v:=A},hk,q _ ?_ ?_,F,.put hd h1 (m lZ.self),G⟩;rcases jP h1 with⟨id,ver,g,len,j,rfl⟩|⟨j,hy⟩
 obtain⟨f,_,rfl,hl,_,els,H,hr⟩:=yJ l hg j;have:=hr.1;simp only[Sim.appendTo,H];rw[wO2 ⟨by trivial,by trivial,by trivial,by omega⟩];rfl;rcases hy with rfl|rfl<;>rfl;intro z id ver off len cap hv;rcases jP h1 with⟨id',U,g,T,j,rfl⟩|⟨j,hy⟩
 obtain⟨f,_,rfl,hl,_⟩:=yJ l hg j;cases hv;omega
 grind
 have p:a.isEmpty=false:=by cases a<;>simp_all
 rcases jP h1 with⟨id,ver,g,len,j,rfl⟩|⟨j,hy⟩
 obtain⟨f,L,rfl,hl,_,els,H,hr⟩:=yJ l hg j;subst hl;have Y:=hr.1
 have J:Sim.appendTo (Sim.look s.h) lim s.n ty' g (.sl g id ver 0 rows.length none) a=some {v:=.sl g id (ver+1) 0 (rows.length+a.length) none,up:=some (id,.arr false ty' g (ver+1) (els++a))}:=by
  simp only[Sim.appendTo,H];rw[wO2 ⟨by trivial,by trivial,by trivial,by omega⟩];simp only[p,wU2,xQ2];rw[wO2 (by omega),wO2 ⟨by trivial,f,by trivial⟩]
 have x:∀i,i≠id->Sim.look (upd s.h id (.arr false ty' g (ver+1) (els++a))) i=Sim.look s.h i:=fun i hi=>by
  rw[Sim.look_upd];simp[hi]
 obtain⟨F,G⟩:=Ma (id:=id) (ver:=ver+1) (e:=g) (len:=(rows++new).length) (po2:=.lz ty' g dp (rows++new)) (s':={h:=upd s.h id (.arr false ty' g (ver+1) (els++a)),n:=s.n}) l hg u
  (wK2 _) (l.wf.upd _ _) (.upd _ _ _ _) (fun i _ hi=>x i hi) (.inr ⟨_,_,_,j⟩) ⟨f,L,rfl,rfl,hfx,els++a,by rw[Sim.look_upd];simp[H],hr.append o⟩ rfl
 refine⟨_,_,_,_,hk,q _ J ?_,F,?_,G⟩
 grind
 refine .put hd ?_ (m (hZ C k _));have:RV (mv C k (.atp id (ver+1) g (rows++new).length)) (.own k) (.sl g id (ver+1) 0 (rows++new).length none):=.own (sN C k _);rw[xD2,hlen]at this;simpa[hlen]using this;have N:=wU l hg j;subst N
 have B:Sim.appendTo (Sim.look s.h) lim s.n ty' es' A a=some {v:=.sl es' s.n 0 0 a.length none,new:=some (.arr false ty' es' 0 a)}:=by
  rcases hy with rfl|rfl<;>simp[Sim.appendTo,p]
 have x:∀i,i<s.n->Sim.look (.ob s.n (.arr false ty' es' 0 a)::s.h) i=Sim.look s.h i:=fun i hi=>by
  rw[eZ,wN2 (by omega)]
 obtain⟨F,G⟩:=Ma (id:=s.n) (ver:=0) (e:=es') (len:=([]++new).length) (po2:=.lz ty' es' dp ([]++new)) (s':={h:=.ob s.n (.arr false ty' es' 0 a)::s.h,n:=s.n+1}) l hg u
  (by show s.n<=s.n+1;omega) ⟨by simp,l.wf⟩ (.new _ _ _) (fun i hi _=>x i hi) (.inl (wK2 _)) ⟨l.lim,by show s.n<s.n+1;omega,rfl,rfl,hfx,a,by rw[eZ,wO2 rfl],by rw[aB3];exact o⟩ rfl
 refine⟨_,_,_,_,hk,q _ B ?_,F,.put hd ?_ (m (hZ C k _)),G⟩
 grind
 have:RV (mv C k (.atp s.n 0 es' ([]++new).length)) (.own k) (.sl es' s.n 0 0 ([]++new).length none):=.own (sN C k _);simpa[hlen]using this;cases c
 grind
theorem iD1 (p:cY C n h lim s) {e:fH} {t:aA AV} {d ty es b:Nat} {zero:aA Value} {kill:aA Nat} {x1 x2:PV} {O X:AV} {K:fH->bC->aB R} {r:R} (he:dT C e t) (hd:d<t.length) (h1:RV C x1 O) (h2:RV C x2 X)
  (hk:rD1 e h d ty es kill x1 x2 K=some r):
  ∃C' e' h' out,K e' h'=some r/\doOp (Sim.look s.h) lim s.n (.append ty es b zero false) [O,X]=some out/\cY C' n h' lim (out.apply s)/\dT C' e' (t.set d out.v)/\Fr C h s C' h' (out.apply s):=by
 unfold rD1 at hk;cases x1 with
 |own k=>
  simp only[fS,wH2]at hk;obtain⟨ob,hg,hk⟩:=hk;cases ob with
  |lz ty' es' dp rows=>exact bJ1 p he hd h1 h2 hg hk
  |lst ty' es' g rows=>
   have hz:=bI1 p hk h2;clear hk;obtain⟨new,a,hk,b9,y⟩:=hz;by_cases hc:(Nat.beq es' es&&(Nat.beq ty' ty&& !(iC ty')))=true;simp only[hc,wZ2,cH,wH2]at hk;simp only[wL2,bZ,wS2,xG2]at hc;obtain⟨rfl,rfl,hfx⟩:=hc;have A:Dx ty'=ty':=by simp[Dx,hfx]
   obtain⟨N,j,hk⟩:=hk;rw[eY]at hk;obtain⟨e2,hk,b6⟩:=kX _ _ _ hk;obtain⟨d5,hk,J⟩:=mG _ _ _ hk;have hk:=eQ _ _ _ _ _ hk;unfold appRows at j;split at j;rename_i M;obtain rfl:rows++new=N:=yK2 j
   have u:∀{C':Cx},lZ k C C'->∀i w,eW e2 i=some w->∃z,t[i]? =some z/\RV C' w z/\i≠d:=by
    intro C' o i w hw;obtain⟨v,q1,q2⟩:=b6 i w hw;obtain⟨z,p1,p2,p3⟩:=he.edel (d::kill) i v q1;exact⟨z,p1,q2 o p2,fun Y=>p3 (by simp[Y])⟩
   have G:∀out,Sim.appendTo (Sim.look s.h) lim s.n ty' es' O a=some out->(∀z id ver off len cap,out.v=.sl z id ver off len cap->len<=Sim.maxRoom)->doOp (Sim.look s.h) lim s.n (.append ty' es' b zero false) [O,X]=some out:=by
    intro out T hl;simp only[doOp,Sim.appRows,wU2,xQ2,b9,T];split;rename_i hv;rw[wO2 ⟨hl _ _ _ _ _ _ hv,by rw[<-y.1];omega⟩];rfl
   have hlen:=y.1;by_cases D:a=[]
   ·
    subst D;have S:new=[]:=by simpa using hlen
    subst S;rw[zP2]at hk;obtain⟨V,W⟩:=Tg p hg J (show gB (.lst ty' es' g rows)=false from hfx);refine⟨C,_,_,{v:=O},hk,G _ ?_ ?_,V,.put hd h1 (u lZ.self),W⟩;rcases jP h1 with⟨id,ver,m,len,o,rfl⟩|⟨o,hy⟩
    obtain⟨l,rfl,hl,els,F,hr,b7,_⟩:=kJ p hg o;rw[A]at F;simp only[Sim.appendTo,F];rw[wO2 ⟨by trivial,by trivial,by trivial,by omega⟩];rfl;rcases hy with rfl|rfl<;>rfl;intro z id ver off len cap hv;rcases jP h1 with⟨id',d3,m,d2,o,rfl⟩|⟨o,hy⟩
    obtain⟨l,rfl,hl,_⟩:=kJ p hg o;cases hv;omega
    grind
   have x:a.isEmpty=false:=by cases a<;>simp_all
   rcases jP h1 with⟨id,ver,m,len,o,rfl⟩|⟨o,hy⟩
   obtain⟨l,rfl,hl,els,F,hr,b7,b0⟩:=kJ p hg o;rw[A]at F;subst hl;have b5:=(p.hr.lt (by rw[hg];simp) o).2
   have fin:∀(f:Nat) (c:aA (aA AV)) (out:Out),out={v:=.sl m id f 0 (rows.length+a.length) none,up:=some (id,.arr false ty' m f c)}->
     Sim.appendTo (Sim.look s.h) lim s.n ty' m (.sl m id ver 0 rows.length none) a=some out->
     RR (rows++new) (c.take (rows++new).length)->(rows++new).length<=c.length->(g=false->c.length=(rows++new).length)->
     ∃C' e' h' out,K e' h'=some r/\doOp (Sim.look s.h) lim s.n (.append ty' m b zero false) [.sl m id ver 0 rows.length none,X]=some out/\cY C' n h' lim (out.apply s)/\dT C' e' (t.set d out.v)/\Fr C h s C' h' (out.apply s):=by
    intro f c out T Z U P a0;have B:(out.apply s).h=upd s.h id (.arr false ty' m f c)/\(out.apply s).n=s.n:=by subst T;exact⟨rfl,rfl⟩
    have L:∀i,i≠id->Sim.look (upd s.h id (.arr false ty' m f c)) i=Sim.look s.h i:=fun i hi=>by
     rw[Sim.look_upd];simp[hi]
    have q:out.apply s={h:=upd s.h id (.arr false ty' m f c),n:=s.n}:=by subst T;rfl
    obtain⟨V,W⟩:=Ma (id:=id) (ver:=f) (e:=m) (len:=(rows++new).length) (po2:=.lst ty' m g (rows++new)) (s':={h:=upd s.h id (.arr false ty' m f c),n:=s.n}) p hg J
     (wK2 _) (p.wf.upd _ _) (.upd _ _ _ _) (fun i _ hi=>L i hi) (.inr ⟨_,_,_,o⟩) ⟨l,b5,rfl,rfl,c,by rw[Sim.look_upd];simp[F,A],U,P,a0⟩ hfx
    refine⟨_,_,_,out,hk,G out Z ?_,by rw[q];exact V,?_,by rw[q];exact W⟩
    grind
    subst T;refine .put hd ?_ (u (hZ C k _));have:RV (mv C k (.atp id f m (rows++new).length)) (.own k) (.sl m id f 0 (rows++new).length none):=.own (sN C k _);rw[xD2,hlen]at this;simpa[hlen]using this
   by_cases H:rows.length=els.length;refine fin (ver+1) (els++a) _ rfl ?_ ?_ ?_ ?_;simp only[Sim.appendTo,F];rw[wO2 ⟨by trivial,by trivial,by trivial,by omega⟩];simp only[x,wU2,xQ2];rw[wO2 (by omega),wO2 ⟨by trivial,l,by trivial⟩];rw[xS2 (by simp;omega)];refine RR.append ?_ y;rw[xS2 (by omega)]at hr;exact hr;simp;omega;intro _;simp;omega
   have b4:g=true:=by
    cases g with
    |true=>rfl
    |false=>exact absurd (b0 rfl).symm H
   have d4:=M.2 b4
   have d1:a.length=1:=by
    have:a.length≠0:=by simpa using D
    omega
   have E:rows.length+a.length<=els.length:=by omega
   refine fin ver (Sim.setL els rows.length a) _ rfl ?_ ?_ ?_ ?_;simp only[Sim.appendTo,F];rw[wO2 ⟨by trivial,by trivial,by trivial,by omega⟩];simp only[x,wU2,xQ2];rw[wN2 (by omega),wO2 ⟨by omega,l⟩];rw[yP2];rw[vB els rows.length a E];have Y:(els.take rows.length++a++els.drop (rows.length+a.length)).take (rows++new).length=els.take rows.length++a:=by grind
   rw[Y];exact hr.append y;rw[vB els rows.length a E];simp[hlen];omega
   grind
   ·
    have b8:=lX p hg o;subst b8
    have B:Sim.appendTo (Sim.look s.h) lim s.n ty' es' O a=some {v:=.sl es' s.n 0 0 a.length none,new:=some (.arr false ty' es' 0 a)}:=by
     rcases hy with rfl|rfl<;>simp[Sim.appendTo,x]
    have L:∀i,i<s.n->Sim.look (.ob s.n (.arr false ty' es' 0 a)::s.h) i=Sim.look s.h i:=fun i hi=>by
     rw[eZ,wN2 (by omega)]
    obtain⟨V,W⟩:=Ma (id:=s.n) (ver:=0) (e:=es') (len:=([]++new).length) (po2:=.lst ty' es' g ([]++new)) (s':={h:=.ob s.n (.arr false ty' es' 0 a)::s.h,n:=s.n+1}) p hg J
     (by show s.n<=s.n+1;omega) ⟨by simp,p.wf⟩ (.new _ _ _) (fun i hi _=>L i hi) (.inl (wK2 _)) ⟨p.lim,by show s.n<s.n+1;omega,rfl,rfl,a,by rw[eZ,wO2 rfl,A],by rw[xS2 (by simp;omega)];exact y,by simp;omega,fun _=>by simp;omega⟩ hfx
    refine⟨_,_,_,_,hk,G _ B ?_,V,.put hd ?_ (u (hZ C k _)),W⟩
    grind
    have:RV (mv C k (.atp s.n 0 es' ([]++new).length)) (.own k) (.sl es' s.n 0 0 ([]++new).length none):=.own (sN C k _);simpa[hlen]using this
   cases j
   grind
  |_=>exact aE hk
 |_=>exact aE hk
theorem bK1 (d:cY C n h lim s) {k ty2 e2:Nat} {g2:Bool} {po:fQ} {h1:bC} (hg:aO h k=some po) (u:C k=some .nil) (hkl:Cd k h h1) (g:iC ty2=false):
  cY C n (fR h1 k (.lst ty2 e2 g2 [])) lim s/\Fr C h s C (fR h1 k (.lst ty2 e2 g2 [])) s:=by
 have m:(aO h1 k).isSome=true:=by
  cases hc:aO h1 k with
  |none=>rw[(hkl.1 k).1 hc]at hg;cases hg
  |some o=>rfl
 have a:∀j,aO (fR h1 k (.lst ty2 e2 g2 [])) j=if j=k then some (.lst ty2 e2 g2 [])else aO h1 j:=fun j=>by
  rw[gU];simp[m]
 have b:∀j,aO (fR h1 k (.lst ty2 e2 g2 [])) j≠none->aO h j≠none:=fun j c=>by
  rw[a]at c;split at c
  grind
  exact fun hc=>c ((hkl.1 j).2 hc)
 refine⟨⟨⟨fun j o c=>?_,fun j t i v1 f r v2 e2 y a1 a2 a3 a4=>d.hr.inj j t i v1 f r v2 e2 y (b j a1) (b t a2) a3 a4,fun i o x=>?_⟩,d.dom,d.wf,d.lim⟩,⟨.refl _ _,wK2 _,fun _ _ _=>rfl,fun i hi w=>?_,Ie hg hkl g lZ.self,fun _ _ h=>h,fun _ _ h=>.inl h⟩⟩;rw[a]at c;split at c;rename_i f;subst f;cases c;exact⟨.nil,u,rfl⟩;obtain⟨z,q1,A,q2⟩:=hkl.2 j o c;obtain⟨pl,p,q⟩:=d.hr.ob j z q1;exact⟨pl,p,q2 lZ.self q⟩;obtain⟨z1,z2,z3,z4⟩:=d.hr.zr i o x;exact⟨z1,z2,fun j v e l h1 h2=>z3 j v e l (b j h1) h2,z4⟩;obtain⟨j,v1,f,r,p,q⟩:=w;exact⟨j,v1,f,r,b j p,q⟩
theorem Wj (f:cY C n h lim s) {e:fH} {t:aA AV} {d es k:Nat} {hi:Int} {kd:IntKind} {kill:aA Nat} {D F:AV} {K:fH->bC->aB R} {r:R} (he:dT C e t) (hd:d<t.length) (h1:RV C (.own k) D) (h2:RV C (.v (.int kd hi)) F)
  (hk:Pw e h d es kill k hi K=some r):
  ∃C' e' h' out,K e' h'=some r/\doOp (Sim.look s.h) lim s.n (.slc es false true false) [D,F]=some out/\cY C' n h' lim (out.apply s)/\dT C' e' (t.set d out.v)/\Fr C h s C' h' (out.apply s):=by
 unfold Pw at hk;simp only[fS,wH2]at hk;obtain⟨ob,hg,hk⟩:=hk;cases ob with
 |lst ty es' g rows=>
  by_cases hc:es'=es
  .subst hc
   cases hfx:iC ty with
   |true=>simp only[hfx,zI2,Bool.and_false,xO2]at hk;exact aE hk
   |false=>
   simp only[bZ,yO2,hfx,Bool.not_false,Bool.and_true,wZ2,cH,wH2,rQ]at hk;obtain⟨B,c,hk⟩:=hk;rw[eY]at hk;obtain⟨e2,hk,j⟩:=kX _ _ _ hk;obtain⟨u,hk,l⟩:=mG _ _ _ hk;have hk:=eQ _ _ _ _ _ hk;split at c
   .rename_i hb
    obtain⟨b2,b3⟩:=hb;obtain rfl:=yK2 c;rw[gG h2];rcases jP h1 with⟨id,ver,o,len,b,rfl⟩|⟨b,hy⟩
    .obtain ⟨m,rfl,hl,els,E,hr,H,G⟩:=kJ f hg b
     subst hl;have x:=(f.hr.lt (by rw[hg];simp) b).2;have a:(rows.take hi.toNat).length=hi.toNat:=by simp;omega
     obtain⟨y,A⟩:=Ma (id:=id) (ver:=ver) (e:=o) (len:=(rows.take hi.toNat).length) (po2:=.lst ty o true (rows.take hi.toNat)) (s':=s) (h1:=u) (hg:=hg) (hkl:=l) f
      (wK2 _) f.wf (.refl _ _) (fun i _ _=>rfl) (.inr ⟨_,_,_,b⟩) ⟨m,x,rfl,rfl,els,E,by
       have:=hr.take hi.toNat
       rw[List.take_take,Nat.min_eq_left (by omega)]at this;rw[a];exact this,by rw[a];omega,fun h=>by cases h⟩ hfx
     refine⟨_,_,_,{v:=.sl o id ver 0 hi.toNat none},hk,?_,y,.put hd ?_ (fun i w hw=>?_),A⟩
     .simp only[doOp,Sim.sliceOp,wU2,xQ2,Sim.bounds,Sim.intOf,xP2,E,Sim.roomOf]
      rw[wO2 ⟨by trivial,by trivial,by omega,b2,by omega,by omega⟩];simp
     .have:=RV.own (C:=mv C k (.atp id ver o (rows.take hi.toNat).length)) (sN C k _)
      rw[a]at this ⊢;exact this
     .obtain ⟨v,q1,q2⟩:=j i w hw
      obtain⟨z,p1,p2,p3⟩:=he.edel (d::kill) i v q1;exact⟨z,p1,q2 (hZ C k _) p2,fun p=>p3 (by simp[p])⟩
    .have:=lX f hg b
     subst this;simp only[wW2,Int.natCast_zero]at b3;obtain rfl:hi=0:=by omega
     obtain⟨y,A⟩:=bK1 (ty2:=ty) (e2:=es') (g2:=true) f hg b l hfx
     obtain rfl:D=.v (.slice none 0 0):=by
      rcases nG h1 with⟨_,_,_,_,q,_⟩|⟨_,q⟩
      .rw [b]at q;cases q
      .exact q
     refine⟨_,_,_,{v:=.v (.slice none 0 0)},hk,rfl,y,.put hd (.ownn b rfl) (fun i w hw=>?_),A⟩;obtain⟨v,q1,q2⟩:=j i w hw;obtain⟨z,p1,p2,p3⟩:=he.edel (d::kill) i v q1;exact⟨z,p1,q2 lZ.self p2,fun p=>p3 (by simp[p])⟩
   .cases c
  .simp only[bZ,yC2 hc,Bool.false_and,xO2]at hk;exact aE hk
 |_=>exact aE hk
end
end Go.P
namespace Go.P
open Go.Sim (AV AO Hp gP upd St IC IX Ex fC CK Wf Out doOp jA exec)
section
variable {R:Type} {C:Cx} {n:Nat} {h:bC} {lim:Nat} {s:Hp}
theorem bL1 (l:cY C n h lim s) {m:Bool} {k:Nat} {v:PV} {ob:fQ} {x:PV} (hv:Bp v=some (m,k)) (hg:aO h k=some ob) (hf:Sq m ob=some x) {y:AV} (hy:RV C v y):
  (∃id ver e len o,C k=some (.atp id ver e len)/\Sim.look s.h id=some o/\nbO o=true/\∀(z:Nat->aB AO) (f:Nat->aB Pl),(∀i o,C.z i=some o->z i=some o)->z id=some o->RV ⟨f,z⟩ x y)\/(C k=some .nil/\∀C':Cx,RV C' x y):=by
 cases v with
 |own k'=>
  cases hv;cases ob with
  |lst ty e g rows=>
   unfold Sq at hf;cases hfx:iC ty with
   |true=>simp only[hfx,wZ2]at hf;cases hf
   |false=>
   simp only[hfx,xO2]at hf;cases hf;have q:Dx ty=ty:=by simp[Dx,hfx]
   rcases nG hy with⟨id,ver,d,len,c,rfl⟩|⟨c,rfl⟩
   obtain⟨_,rfl,hlen,els,j,hr,p,_⟩:=kJ l hg c;subst hlen;rw[q]at j;refine .inl ⟨id,ver,d,_,_,c,j,rfl,fun z f t hi=>.zs (.inr ⟨d,rows,id,ver,ty,els,rfl,rfl,hi,p,fun i r r' a b=>?_⟩)⟩;refine hr.2 i r r' a ?_;have:i<rows.length:=(wI2.1 a).1;rw[xW2,wO2 this];exact b;have:=lX l hg c;subst this;exact .inr ⟨c,fun C'=>.zs (RZ.of .isn)⟩
  |lz ty e dp rows=>
   cases hf;rcases nG hy with⟨id,ver,d,len,c,rfl⟩|⟨c,rfl⟩
   obtain⟨_,_,rfl,hlen,_,els,j,hr⟩:=yJ l hg c;subst hlen;have hl:=hr.1;exact .inl ⟨id,ver,d,_,_,c,j,rfl,fun z f t hi=>.zs (.inr ⟨d,rows,id,ver,ty,els,rfl,rfl,hi,by omega,fun i r r' a b=>(hr.2 i r r' a b).mono fun _ _ h=>RZ.mono t h⟩)⟩;have:=wU l hg c;subst this;exact .inr ⟨c,fun C'=>.zs (RZ.of .isn)⟩
  |_=>cases hf
 |map k'=>
  cases hv;cases ob with
  |mp es=>
   cases hf;obtain⟨id,ver,d,len,c,rfl⟩:=wS hy;obtain⟨_,es',j,he⟩:=Ls l hg c;exact .inl ⟨id,ver,d,_,_,c,j,rfl,fun z f t hi=>.zm hi he⟩
  |_=>cases hf
 |_=>cases hv
def Yo (C:Cx) (k id:Nat) (o:AO):Cx:=⟨fun j=>if j=k then some .nil else C j,fun i=>if i=id then some o else C.z i⟩
theorem fW2 (q:cY C n h lim s) {k id ver e len:Nat} {po:fQ} {h1:bC} {o:AO} (hg:aO h k=some po) (u:C k=some (.atp id ver e len)) (L:Sim.look s.h id=some o) (E:nbO o=true) (hkl:Cd k h h1):
  cY (Yo C k id o) n (fR h1 k (.lst 0 0 true [])) lim s/\Fr C h s (Yo C k id o) (fR h1 k (.lst 0 0 true [])) s/\lZ k C (Yo C k id o):=by
 have B:=(q.hr.lt (by rw[hg];simp) u).2
 have F:C.z id=none:=by
  cases f:C.z id with
  |none=>rfl
  |some o'=>exact absurd u ((q.hr.zr id o' f).2.2.1 k ver e len (by rw[hg];simp))
 have x:∀i o',C.z i=some o'->(Yo C k id o).z i=some o':=fun i o' f=>by
  have:i≠id:=fun r=>by rw[r,F]at f;cases f
  simp only[Yo,wN2 this];exact f
 have c:lZ k C (Yo C k id o):=⟨fun j d=>wN2 d,x⟩
 have y:(Yo C k id o) k=some .nil:=wO2 rfl
 have A:(aO h1 k).isSome=true:=by
  cases hc:aO h1 k with
  |none=>rw[(hkl.1 k).1 hc]at hg;cases hg
  |some o=>rfl
 have m:∀j,aO (fR h1 k (.lst 0 0 true [])) j=if j=k then some (.lst 0 0 true [])else aO h1 j:=fun j=>by
  rw[gU];simp[A]
 have p:∀j,aO (fR h1 k (.lst 0 0 true [])) j≠none->aO h j≠none:=fun j d=>by
  rw[m]at d;split at d
  grind
  exact fun hc=>d ((hkl.1 j).2 hc)
 have g:∀{j t v e l},(Yo C k id o) j=some (.atp t v e l)->j≠k/\C j=some (.atp t v e l):=fun{j t v e l} d=>by
  by_cases b:j=k
  grind
  exact⟨b,(c.1 j b).symm.trans d⟩
 refine⟨⟨⟨fun j ob d=>?_,fun j K i v1 r J v2 e2 N a1 a2 a3 a4=>q.hr.inj j K i v1 r J v2 e2 N (p j a1) (p K a2) (g a3).2 (g a4).2,fun i o' f=>?_⟩,fun j pl d=>?_,q.wf,q.lim⟩,⟨.refl _ _,wK2 _,fun _ _ _=>rfl,fun i hi M=>?_,Ie hg hkl rfl c,x,fun i hi f=>?_⟩,c⟩;rw[m]at d;split at d;rename_i r;subst r;cases d;exact⟨.nil,y,rfl⟩;rename_i D;obtain⟨O,q1,P,q2⟩:=hkl.2 j ob d;obtain⟨pl,G,H⟩:=q.hr.ob j O q1;exact⟨pl,(c.1 j D).trans G,q2 c H⟩;by_cases hi:i=id;subst hi;simp only[Yo,xM2]at f;cases f;refine⟨L,B,fun j v e' l a b=>?_,E⟩;obtain⟨b1,b2⟩:=g b;exact b1 (q.hr.inj j k i _ _ _ _ _ _ (p j a) (by rw[hg];simp) b2 u);simp only[Yo,wN2 hi]at f;obtain⟨z1,z2,z3,z4⟩:=q.hr.zr i o' f;exact⟨z1,z2,fun j v e' l a b=>z3 j v e' l (p j a) (g b).2,z4⟩;by_cases b:j=k;subst b;exact q.dom j _ u;exact q.dom j pl ((c.1 j b).symm.trans d);obtain⟨j,v1,r,J,G,H⟩:=M;exact⟨j,v1,r,J,p j G,(g H).2⟩;by_cases w:i=id;subst w;exact .inr ⟨k,ver,e,len,by rw[hg];simp,u⟩;simp only[Yo,wN2 w]at f;exact .inl f
theorem iE1 (A:cY C n h lim s) {e:fH} {t:aA AV} (he:dT C e t) {d k:Nat} {m:Bool} {H J:PV} {q yd:AV} {j:aB Nat} {K:fH->bC->aB R} {r:R} (N:eW e d=some J) (hd:t[d]? =some yd) (P:RV C J yd)
  (hv:Bp H=some (m,k)) (hy:RV C H q) (O:(j=none/\yd=q)\/∃i cs',j=some i/\yd=.agg cs'/\cs'[i]? =some q) (hk:fzK e h d m k j K=some r):
  ∃C' e' h',K e' h'=some r/\cY C' n h' lim s/\dT C' e' t/\Fr C h s C' h' s:=by
 unfold fzK at hk;rw[fS,wH2]at hk;obtain⟨ob,hg,hk⟩:=hk;cases hf:Sq m ob with
 |none=>rw[hf]at hk;cases hk
 |some x=>
 rw[hf]at hk;simp only at hk;obtain⟨e2,hk,D⟩:=kX _ _ _ hk;obtain⟨h2,hk,p⟩:=mG _ _ _ hk;have hk:=eQ _ _ _ _ _ hk
 have g:∃C',cY C' n (fR h2 k (.lst 0 0 true [])) lim s/\Fr C h s C' (fR h2 k (.lst 0 0 true [])) s/\lZ k C C'/\RV C' x q:=by
  rcases bL1 A hv hg hf hy with⟨id,ver,S,len,o,y,M,E,F⟩|⟨y,F⟩
  obtain⟨c,f,u⟩:=fW2 A hg y M E p;exact⟨_,c,f,u,F _ _ u.2 (by simp[Yo])⟩;obtain⟨c,f⟩:=bK1 (ty2:=0) (e2:=0) (g2:=true) A hg y p rfl;exact⟨C,c,f,lZ.self,F C⟩
 obtain⟨C',c,f,u,G⟩:=g
 have l:dT C' e2 t:=fun i w hw=>by
  obtain⟨v,q1,q2⟩:=D i w hw;obtain⟨z,p1,p2⟩:=he i v q1;exact⟨z,p1,q2 u p2⟩
 have Ei:∀{v:PV},RV C' v yd->dT C' ((d,v)::edel e2 [d]) t:=fun{v} hv i w hw=>by
  simp only[eW]at hw;split at hw
  grind
  obtain⟨z,p1,p2,_⟩:=l.edel [d] i w hw;exact⟨z,p1,p2⟩
 rcases O with⟨rfl,rfl⟩|⟨i,cs',rfl,rfl,hi⟩
 simp only[eY]at hk;exact⟨C',_,_,hk,c,Ei G,f⟩;simp only[gQ,wH2]at hk;obtain⟨v2,hv2,hk⟩:=hk;cases v2 with
 |agg cs=>
  obtain⟨q1,q2⟩:=jX _ _ _ _ _ hk;simp only[eY]at q2;obtain⟨z,p1,p2⟩:=l d _ hv2;rw[hd]at p1;cases p1;obtain⟨cs2,B,hl⟩:=nT p2;cases B;refine⟨C',_,_,q2,c,Ei ?_,f⟩;have b:=hl.set G i
  have L:cs'.set i q=cs':=by
   apply aD3;intro a;rw[xH2];split
   grind
   rfl
  rw[L]at b;exact .agg b.1 b.2
 |_=>exact aE hk
end
end Go.P
namespace Go.P
open Go.Sim (AV AO Hp gP upd St IC IX Ex fC CK Wf Out doOp jA exec Foot wanted put)
theorem bM1 {x:PV} (h:okC x=true):RC false x (eV x):=by
 unfold okC at h;split at h;exact .v _;exact .isn;exact .fn rfl rfl (fun j x y h=>by simp at h) (fun j x y h=>by simp at h);rename_i cs;refine .agg (by simp) (fun j x y a hy=>?_);simp only[xN2,wM2]at hy;obtain⟨b,h1,rfl⟩:=hy;rw[a]at h1;cases h1;have:=wR2.1 h x (wT2 a);cases x<;>simp[isV]at this;exact .v _;cases h
def Qg (N:Nat):PX->Bool
 |.t i=>Nat.blt i N
 |.c x=>okC x
def kU (N:Nat) (e:aA Nat) (a:Bool):aA Nat->iT->Bool
 |_,.nil=>true
 |ds,.op d _ xs _ r=>Nat.blt d N&& !Eg d e&&xs.all (Qg N)&&kU N e a (d::ds) r
 |ds,.sto _ xs _ r=>xs.all (Qg N)&&kU N e a ds r
 |ds,.ifx d c _ b x _ r=>Nat.blt d N&& !Eg d e&&Qg N x&&(!a||Eg c ds)&&kU N (c::e) true [] b&&kU N e a (d::ds) r
 |ds,.ifn d c _ b x _ r=>Nat.blt d N&& !Eg d e&&Qg N x&&(!a||Eg c ds)&&kU N (c::e) true [] b&&kU N e a (d::ds) r
 |ds,.mkfl d _ _ xs _ r=>Nat.blt d N&& !Eg d e&&xs.all (Qg N)&&kU N e a (d::ds) r
 |ds,.lax _ _ r=>kU N e a ds r
 |ds,.own _ _ _ _ r=>kU N e a ds r
 |ds,.ownc _ _ _ _ _ r=>kU N e a ds r
 |ds,.laxc _ _ _ r=>kU N e a ds r
 |ds,.fz _ _ r=>kU N e a ds r
 |ds,.laxm _ _ r=>kU N e a ds r
section
variable {R:Type} {C:Cx} {n N:Nat} {h:bC} {lim:Nat} {s:Hp} {T:jA} {O:tW} {NF:FuncId->Bool} {dr:Nat} {e:fH} {t:List AV}
theorem lC (he:dT C e t):∀{xs:aA PX} {vs:aA PV},xs.all (Qg N)=true->evs e xs=some vs->∃ys,Sim.evs t (xs.map eX)=some ys/\LR (RV C) vs ys
 |[],vs,_,h=>by
  simp only[evs,wP2]at h
  subst h
  exact⟨[],rfl,.nil⟩
 |.t i::xs,vs,ho,h=>by
  simp only[evs,wH2,wP2]at h
  obtain⟨v,hv,f,a,rfl⟩:=h
  obtain⟨y,h1,h2⟩:=he i v hv
  obtain⟨ys,b,d⟩:=lC he (xs:=xs) (by simp only[yS2,wL2]at ho;exact ho.2) a
  exact⟨y::ys,by simp[Sim.evs,eX,IX.ev,h1,b],.cons h2 d⟩
 |.c x::xs,vs,ho,h=>by
  simp only[evs,wH2,wP2]at h
  obtain⟨f,a,rfl⟩:=h
  simp only[yS2,wL2]at ho
  obtain⟨ys,b,d⟩:=lC he (xs:=xs) ho.2 a
  exact⟨eV x::ys,by simp[Sim.evs,eX,IX.ev,b],.cons (.cl (bM1 ho.1)) d⟩
def Oe (g:aB (Nat×Bool)) (t:aA AV):Prop:=match g with
 |none=>True
 |some (c,w)=>t[c]? =some (.v (.bool w))
theorem Oe.wanted {g:aB (Nat×Bool)} {t:aA AV} (h:Oe g t):wanted t g=true:=by
 cases g with
 |none=>rfl
 |some p=>obtain⟨c,w⟩:=p;simp only[Oe]at h;simp[Sim.wanted,h]
def GIn (g:aB (Nat×Bool)) (a:aA Nat):Prop:=∀c w,g=some (c,w)->c∈a
theorem Oe.set {g:aB (Nat×Bool)} {t:aA AV} {a:aA Nat} {d:Nat} {y:AV} (h:Oe g t) (hg:GIn g a) (hd:d∉a):Oe g (t.set d y):=by
 cases g with
 |none=>trivial
 |some p=>
  obtain⟨c,w⟩:=p;simp only[Oe]at h ⊢;rw[xL2 (fun e=>hd (by rw[e];exact hg c w rfl))];exact h
structure Mx (s s':Hp):Prop where
 sk:Sk s.h s'.h s.n
 n:s.n<=s'.n
 wf:Wf s'.h s'.n
 look:∀id,id<s.n->Sim.look s'.h id=Sim.look s.h id
theorem Mx.refl (hw:Wf s.h s.n):Mx s s:=⟨.refl _ _,wK2 _,hw,fun _ _=>rfl⟩
theorem Mx.trans {s' d:Hp} (a:Mx s s') (b:Mx s' d):Mx s d:=⟨a.sk.trans b.sk a.n,xJ2 a.n b.n,b.wf,fun id c=>(b.look id (yU2 c a.n)).trans (a.look id c)⟩
theorem cY.grow {s':Hp} (b:cY C n h lim s) (a:Mx s s'):cY C n h lim s':=by
 refine⟨⟨fun k po hk=>?_,b.hr.inj,fun id o c=>?_⟩,b.dom,a.wf,xJ2 b.lim a.n⟩;obtain⟨pl,h1,h2⟩:=b.hr.ob k po hk;refine⟨pl,h1,h2.mono a.n (.refl C) (fun id v e l hp=>?_)⟩;subst hp;exact a.look id h2.lt.2;obtain⟨z1,z2,z3,z4⟩:=b.hr.zr id o c;exact⟨(a.look id z2).trans z1,yU2 z2 a.n,z3,z4⟩
theorem Mx.fr {s':Hp} (b:Mx s s'):Fr C h s C h s':=⟨b.sk,b.n,fun id a _=>b.look id a,fun _ _ h=>h,fun k o h=>⟨o,h,fun hb=>⟨hb,rfl⟩⟩,fun _ _ h=>h,fun _ _ h=>.inl h⟩
theorem dC:∀(ops:iT) (a:aA Nat) (i:Nat),i∈cR ops a↔i∈cR ops []\/i∈a
 |.nil,a,i=>by simp[cR]
 |.op d k xs kl r,a,i=>by
  simp only[cR,xF2,dC r a i,or_assoc]
 |.sto k xs kl r,a,i=>by simp only[cR,dC r a i]
 |.ifx d c w b x kl r,a,i=>by
  simp only[cR,xF2,dC b (cR r a) i,dC b (cR r []) i,dC r a i]
  constructor
  rintro(h|h|h|h)<;>simp[h]
  rintro((h|h|h)|h)<;>simp[h]
 |.ifn d c w b x kl r,a,i=>by
  simp only[cR,xF2,dC b (cR r a) i,dC b (cR r []) i,dC r a i]
  constructor
  rintro(h|h|h|h)<;>simp[h]
  rintro((h|h|h)|h)<;>simp[h]
 |.mkfl d ty zero xs kl r,a,i=>by
  simp only[cR,xF2,dC r a i,or_assoc]
 |.lax d es r,a,i=>by simp only[cR,dC r a i]
 |.own d ty e g r,a,i=>by simp only[cR,dC r a i]
 |.ownc d j ty e g r,a,i=>by simp only[cR,dC r a i]
 |.laxc d j e r,a,i=>by simp only[cR,dC r a i]
 |.fz d j r,a,i=>by simp only[cR,dC r a i]
 |.laxm d j r,a,i=>by simp only[cR,dC r a i]
theorem fE:∀(ops:iT) {f h:aA Nat} {a:Bool},kU N f a h ops=true->∀i∈cR ops [],i∉f
 |.nil,f,h,a,_,i,hi=>by simp[cR]at hi
 |.op d k xs kl r,f,h,a,ho,i,hi=>by
  simp only[kU,wL2,xG2,iN]at ho
  obtain⟨⟨⟨h1,h2⟩,h3⟩,h4⟩:=ho
  simp only[cR,xF2]at hi
  rcases hi with rfl|hi
  simpa using h2
  exact fE r h4 i hi
 |.sto k xs kl r,f,h,a,ho,i,hi=>by
  simp only[kU,wL2]at ho
  exact fE r ho.2 i hi
 |.ifx d c w b x kl r,f,h,a,ho,i,hi=>by
  simp only[kU,wL2,xG2,iN]at ho
  obtain⟨⟨⟨⟨⟨h1,h2⟩,h3⟩,h4⟩,h5⟩,l⟩:=ho
  simp only[cR,xF2,dC b (cR r []) i]at hi
  rcases hi with rfl|hi|hi
  simpa using h2
  exact fun hg=>fE b h5 i hi (by simp[hg])
  exact fE r l i hi
 |.ifn d c w b x kl r,f,h,a,ho,i,hi=>by
  simp only[kU,wL2,xG2,iN]at ho
  obtain⟨⟨⟨⟨⟨h1,h2⟩,h3⟩,h4⟩,h5⟩,l⟩:=ho
  simp only[cR,xF2,dC b (cR r []) i]at hi
  rcases hi with rfl|hi|hi
  simpa using h2
  exact fun hg=>fE b h5 i hi (by simp[hg])
  exact fE r l i hi
 |.mkfl d ty zero xs kl r,f,h,a,ho,i,hi=>by
  simp only[kU,wL2,xG2,iN]at ho
  obtain⟨⟨⟨h1,h2⟩,h3⟩,h4⟩:=ho
  simp only[cR,xF2]at hi
  rcases hi with rfl|hi
  simpa using h2
  exact fE r h4 i hi
 |.lax d es r,f,h,a,ho,i,hi=>fE r (by simpa only[kU]using ho) i hi
 |.own d ty e g r,f,h,a,ho,i,hi=>fE r (by simpa only[kU]using ho) i hi
 |.ownc d j ty e g r,f,h,a,ho,i,hi=>fE r (by simpa only[kU]using ho) i hi
 |.laxc d j e r,f,h,a,ho,i,hi=>fE r (by simpa only[kU]using ho) i hi
 |.fz d j r,f,h,a,ho,i,hi=>fE r (by simpa only[kU]using ho) i hi
 |.laxm d j r,f,h,a,ho,i,hi=>fE r (by simpa only[kU]using ho) i hi
theorem pG {g:aB (Nat×Bool)} {a:aA Nat} {d:Nat} {y:AV} (hg:GIn g a) (hd:d∉a):wanted (t.set d y) g=wanted t g:=by
 cases g with
 |none=>rfl
 |some p=>
  obtain⟨c,w⟩:=p;simp only[Sim.wanted];rw[xL2 (fun e=>hd (by rw[e];exact hg c w rfl))]
theorem yM {g:aB (Nat×Bool)} {t a:aA AV} (h:∀c w,g=some (c,w)->a[c]? =t[c]?):wanted a g=wanted t g:=by
 cases g with
 |none=>rfl
 |some p=>
  obtain⟨c,w⟩:=p;simp only[Sim.wanted];rw[h c w rfl]
theorem fU (g:aB (Nat×Bool)):∀(ops:iT) (a h:aA Nat) (t:aA AV),kU N a true h ops=true->GIn g a->wanted t g=false->
  (∀c∈h,∀b,t[c]? ≠some (.v (.bool b)))->
  ∃fs n,Tr T NF dr lim (rR g ops) {t:=t,s:=s} fs {t:=n,s:=s}/\n.length=t.length/\(∀(i:Nat),i∉cR ops []->n[i]? =t[i]?)/\∀(i:Nat),n[i]? =t[i]? \/n[i]? =some AV.undef
 |.nil,a,h,t,_,_,_,_=>⟨[],t,.nil,rfl,fun _ _=>rfl,fun _=>.inl rfl⟩
 |.op d k xs kl r,a,h,t,ho,hg,hw,hd=>by
  simp only[kU,wL2,xG2,iN]at ho
  obtain⟨⟨⟨h1,h2⟩,h3⟩,h4⟩:=ho
  have m:d∉a:=by simpa using h2
  have fR:∀i,(t.set d AV.undef)[i]? =t[i]? \/(t.set d AV.undef)[i]? =some AV.undef:=fun i=>by
   by_cases e:d=i
   subst e
   by_cases hl:d<t.length
   exact .inr (by rw[xH2];simp[hl])
   exact .inl (by rw[zS2 (Nat.le_of_not_lt hl)])
   exact .inl (xL2 e)
  obtain⟨fs,n,A,B,y,l⟩:=fU g r a (d::h) (t.set d AV.undef) h4 hg (by rw[pG hg m];exact hw) (fun c hc b=>by
   by_cases f:d=c
   subst f
   rw[xH2]
   simp only[xM2]
   split
   intro e;cases e
   intro e;cases e
   rw[xL2 f]
   rcases xF2.1 hc with rfl|hc
   exact absurd rfl f
   exact hd c hc b)
  refine⟨_,n,.skip (o:=⟨some d,k,xs.map eX,g⟩) hw A,by simpa using B,fun i hi=>?_,fun i=>?_⟩
  simp only[cR,xF2,zK2]at hi
  rw[y i hi.2,xL2 (Ne.symm hi.1)]
  rcases l i with l|l
  rw[l];exact fR i
  exact .inr l
 |.ifx d c w b x kl r,a,h,t,ho,hg,hw,hd=>by
  simp only[kU,wL2,xG2,iN,zI2,Bool.false_or]at ho
  obtain⟨⟨⟨⟨⟨h1,h2⟩,h3⟩,h4⟩,h5⟩,H⟩:=ho
  have m:d∉a:=by simpa using h2
  have D:c∈h:=by simpa using h4
  have F:wanted t (some (c,w))=false:=by
   simp only[Sim.wanted];split;rename_i q J;exact absurd J (hd c D q);rfl
  obtain⟨fs,p,A,B,y,l⟩:=fU (some (c,w)) b (c::a) [] t h5 (fun z w' e=>by cases e;simp) F (fun c hc=>by simp at hc)
  have u:wanted p g=false:=by
   rw[yM (t:=t) (fun z w' e=>y z (fun hi=>fE b h5 z hi (by simp[hg z w' e])))];exact hw
  have E:∀c∈h,∀b,p[c]? ≠some (.v (.bool b)):=fun c hc b=>by
   rcases l c with l|l;rw[l];exact hd c hc b;rw[l];intro e;cases e
  have fR:∀i,(p.set d AV.undef)[i]? =p[i]? \/(p.set d AV.undef)[i]? =some AV.undef:=fun i=>by
   by_cases e:d=i;subst e;by_cases hl:d<p.length;exact .inr (by rw[xH2];simp[hl]);exact .inl (by rw[zS2 (Nat.le_of_not_lt hl)]);exact .inl (xL2 e)
  obtain⟨G,n,q1,q2,q3,q4⟩:=fU g r a (d::h) (p.set d AV.undef) H hg (by rw[pG hg m];exact u) (fun c hc b=>by
   by_cases f:d=c;subst f;rw[xH2];simp only[xM2];split;intro e;cases e;intro e;cases e;rw[xL2 f];rcases xF2.1 hc with rfl|hc;exact absurd rfl f;exact E c hc b)
  refine⟨_,n,A.append (.skip u q1),by simp[q2,B],fun i hi=>?_,fun i=>?_⟩;simp only[cR,xF2,dC b (cR r []) i,zK2]at hi;rw[q3 i hi.2.2,xL2 (Ne.symm hi.1),y i hi.2.1];rcases q4 i with q4|q4;rw[q4];rcases fR i with C|C;rw[C];exact l i;exact .inr C;exact .inr q4
 |.ifn d c w b x kl r,a,h,t,ho,hg,hw,hd=>by
  simp only[kU,wL2,xG2,iN,zI2,Bool.false_or]at ho;obtain⟨⟨⟨⟨⟨h1,h2⟩,h3⟩,h4⟩,h5⟩,H⟩:=ho;have m:d∉a:=by simpa using h2
  have D:c∈h:=by simpa using h4
  have F:wanted t (some (c,w))=false:=by
   simp only[Sim.wanted];split;rename_i q J;exact absurd J (hd c D q);rfl
  obtain⟨fs,p,A,B,y,l⟩:=fU (some (c,w)) b (c::a) [] t h5 (fun z w' e=>by cases e;simp) F (fun c hc=>by simp at hc)
  have u:wanted p g=false:=by
   rw[yM (t:=t) (fun z w' e=>y z (fun hi=>fE b h5 z hi (by simp[hg z w' e])))];exact hw
  have E:∀c∈h,∀b,p[c]? ≠some (.v (.bool b)):=fun c hc b=>by
   rcases l c with l|l;rw[l];exact hd c hc b;rw[l];intro e;cases e
  have fR:∀i,(p.set d AV.undef)[i]? =p[i]? \/(p.set d AV.undef)[i]? =some AV.undef:=fun i=>by
   by_cases e:d=i;subst e;by_cases hl:d<p.length;exact .inr (by rw[xH2];simp[hl]);exact .inl (by rw[zS2 (Nat.le_of_not_lt hl)]);exact .inl (xL2 e)
  obtain⟨G,n,q1,q2,q3,q4⟩:=fU g r a (d::h) (p.set d AV.undef) H hg (by rw[pG hg m];exact u) (fun c hc b=>by
   by_cases f:d=c;subst f;rw[xH2];simp only[xM2];split;intro e;cases e;intro e;cases e;rw[xL2 f];rcases xF2.1 hc with rfl|hc;exact absurd rfl f;exact E c hc b)
  refine⟨_,n,A.append (.skip u q1),by simp[q2,B],fun i hi=>?_,fun i=>?_⟩;simp only[cR,xF2,dC b (cR r []) i,zK2]at hi;rw[q3 i hi.2.2,xL2 (Ne.symm hi.1),y i hi.2.1];rcases q4 i with q4|q4;rw[q4];rcases fR i with C|C;rw[C];exact l i;exact .inr C;exact .inr q4
 |.mkfl d ty zero xs kl r,a,h,t,ho,hg,hw,hd=>by
  simp only[kU,wL2,xG2,iN]at ho;obtain⟨⟨⟨h1,h2⟩,h3⟩,h4⟩:=ho;have m:d∉a:=by simpa using h2
  have fR:∀i,(t.set d AV.undef)[i]? =t[i]? \/(t.set d AV.undef)[i]? =some AV.undef:=fun i=>by
   by_cases e:d=i;subst e;by_cases hl:d<t.length;exact .inr (by rw[xH2];simp[hl]);exact .inl (by rw[zS2 (Nat.le_of_not_lt hl)]);exact .inl (xL2 e)
  obtain⟨fs,n,A,B,y,l⟩:=fU g r a (d::h) (t.set d AV.undef) h4 hg (by rw[pG hg m];exact hw) (fun c hc b=>by
   by_cases f:d=c;subst f;rw[xH2];simp only[xM2];split;intro e;cases e;intro e;cases e;rw[xL2 f];rcases xF2.1 hc with rfl|hc;exact absurd rfl f;exact hd c hc b)
  refine⟨_,n,.skip (o:=⟨some d,.buildSl ty 1 xs.length zero (List.range xs.length),xs.map eX,g⟩) hw A,by simpa using B,fun i hi=>?_,fun i=>?_⟩;simp only[cR,xF2,zK2]at hi;rw[y i hi.2,xL2 (Ne.symm hi.1)];rcases l i with l|l;rw[l];exact fR i;exact .inr l
 |.sto k xs kl r,a,h,t,ho,hg,hw,hd=>by
  simp only[kU,wL2]at ho;obtain⟨fs,n,A,B,y,l⟩:=fU g r a h t ho.2 hg hw hd;exact⟨_,n,.skip (o:=⟨none,k,xs.map eX,g⟩) hw A,B,y,l⟩
 |.lax d es r,a,h,t,ho,hg,hw,hd=>fU g r a h t (by simpa only[kU]using ho) hg hw hd
 |.own d ty e g' r,a,h,t,ho,hg,hw,hd=>fU g r a h t (by simpa only[kU]using ho) hg hw hd
 |.ownc d j ty e g' r,a,h,t,ho,hg,hw,hd=>fU g r a h t (by simpa only[kU]using ho) hg hw hd
 |.laxc d j e r,a,h,t,ho,hg,hw,hd=>fU g r a h t (by simpa only[kU]using ho) hg hw hd
 |.fz d j r,a,h,t,ho,hg,hw,hd=>fU g r a h t (by simpa only[kU]using ho) hg hw hd
 |.laxm d j r,a,h,t,ho,hg,hw,hd=>fU g r a h t (by simpa only[kU]using ho) hg hw hd
end
end Go.P
namespace Go.P
open Go.Sim (AV AO Hp gP upd St IC IX Ex fC CK Wf Out doOp jA exec Foot wanted put)
section
variable {R:Type} {T:jA} {O:tW} {X:NX} {dr:Nat}
theorem Th (B:∀f xs v,O f xs=some v->oH T f xs v) {C:Cx} {n:Nat} {h:bC} {lim:Nat} {s:Hp} {k:fC} {as:aA PV} {ys:aA AV} {K:PV->bC->Nat->aB R} {r:R}
  (g:cY C n h lim s) (u:LR (RV C) as ys) (hk:opK O X k as h n K=some r):
  ∃v h' n' C' y s',K v h' n'=some r/\RV C' v y/\cY C' n' h' lim s'/\C.le C'/\n<=n'/\Fr C h s C' h' s'/\(Lp k=false->∀id,id<s.n->Sim.look s'.h id=Sim.look s.h id)/\
   ∀(o:Sim.Op1) (os:aA Sim.Op1) (t:aA AV) (fs:aA Foot) (τ:St),o.k=k->wanted t o.guard=true->Sim.evs t o.xs=some ys->Tr T X.is dr lim os {t:=put t o.dst y,s:=s'} fs τ->∃f,Tr T X.is dr lim (o::os) {t:=t,s:=s} (f::fs) τ:=by
 have call:∀(f:FuncId) (xs:aA PV) (zs:aA AV) (k:fC),yF O f xs h (fun v=>K v h n)=some r->LR (RV C) xs zs->jQ k=true->3<=mW X.is dr k->((∃ifn,T f=some ifn/\ifn.pure=true)->Sim.foot T k ys={all:=1})->
   (∀(d:Nat) (s:Hp),Sim.step T (exec T d) lim k ys s=Sim.callF T (exec T d) lim f zs s)->
   ∃v h' n' C' y s',K v h' n'=some r/\RV C' v y/\cY C' n' h' lim s'/\C.le C'/\n<=n'/\Fr C h s C' h' s'/\(Lp k=false->∀id,id<s.n->Sim.look s'.h id=Sim.look s.h id)/\
   ∀(o:Sim.Op1) (os:aA Sim.Op1) (t:aA AV) (fs:aA Foot) (τ:St),o.k=k->wanted t o.guard=true->Sim.evs t o.xs=some ys->Tr T X.is dr lim os {t:=put t o.dst y,s:=s'} fs τ->∃f,Tr T X.is dr lim (o::os) {t:=t,s:=s} (f::fs) τ:=by
  intro f xs zs k hk F hc i hf p;obtain⟨v,y,h1,h2,h3,D,h4⟩:=Lx (lim:=lim) B g hk F;refine⟨v,h,n,C,y,s,h1,.cl h2,g,.refl C,wK2 _,.refl _ _ _,fun _ _ _=>rfl,fun o os t fs τ l hw he q=>⟨{all:=1},?_⟩⟩;subst l;exact .call hw he hc i (hf h3) ⟨D,fun d hd m=>by rw[p];exact h4 d hd m⟩ q
 unfold opK at hk;split at hk;rename_i e f;cases hX:X.is f with
 |true=>rw[hX]at hk;exact aE hk
 |false=>
  rw[hX,xO2]at hk;refine call _ _ ys (.callF _) hk u rfl (by simp[mW,hX]) (fun⟨ifn,h1,h2⟩=>?_) (fun d s=>rfl);simp[Sim.foot,h1,h2]
 rename_i f first cap e
 obtain⟨y,w,rfl,h1,h2⟩:=u.inv_cons;obtain⟨a',b',rfl,h3,h4⟩:=yI h1;cases hX:X.is f with
 |true=>rw[hX]at hk;exact aE hk
 |false=>
  rw[hX,xO2]at hk;refine call f (first++e++cap) (a'++w++b') .callV hk ((h3.append h2).append h4) rfl (by simp only[mW];split<;>omega) (fun⟨ifn,G,H⟩=>?_) (fun d s=>rfl);simp[Sim.foot,G,H]
 rename_i k' e j E;obtain⟨v,h',n',C',out,h1,h2,h3,h4,h5,x,z,A⟩:=Lv g u hk;refine⟨v,h',n',C',out.v,out.apply s,h1,h3,h4,h5,x,z,A,fun o os t fs τ l hw he q=>?_⟩;subst l;refine⟨_,.op hw he ?_ h2 q⟩;cases hk':o.k with
 |callF f=>exact absurd hk' (j f)
 |callV=>
  rw[hk']at hk;unfold eC at hk;rcases e with _|⟨a,_|⟨b,_|⟨c,_|⟨d,t⟩⟩⟩⟩<;>exact aE hk
 |_=>rfl
theorem Cf {t:aA AV} {c i:Nat} {x:PX} {N:Nat} (b:t.length=N) (a:Qg N x=true):∃z,(eX x).ev t=some z:=by
 cases x with
 |t i=>
  simp only[Qg,zB2]at a;exact⟨t[i]'(by omega),by simp[eX,IX.ev]⟩
 |c x=>exact⟨eV x,rfl⟩
theorem Mb {t:aA AV} {x y z:IX} {a b c:AV} (h1:x.ev t=some a) (h2:y.ev t=some b) (h3:z.ev t=some c):Sim.evs t [x,y,z]=some [a,b,c]:=by
 simp[Sim.evs,h1,h2,h3]
theorem Gk {N lim:Nat} {A:aA Nat} {C:Cx} {n:Nat} {h:bC} {e:fH} {t:aA AV} {s:Hp} {c:Nat} {w m y:Bool} {d:iT} {x:PX} (E:cY C n h lim s) (F:t.length=N) (B:kU N (c::A) true [] d=true) (D:Qg N x=true)
  (hc:t[c]? =some (.v (.bool m)))
  (hy:(bif w then Lj m (dR.opsB O X d e h n x) (some false)else Lj m (some true) (dR.opsB O X d e h n x))=some y)
  (IH:dR.opsB O X d e h n x=some y->Oe (some (c,w)) t->∃fs o s',Tr T X.is dr lim (rR (some (c,w)) d) {t:=t,s:=s} fs {t:=o,s:=s'}/\(eX x).ev o=some (.v (.bool y))/\o.length=N/\(∀(i:Nat),i∉cR d []->o[i]? =t[i]?)/\Mx s s'):
  ∃fs a b,Tr T X.is dr lim (rR (some (c,w)) d) {t:=t,s:=s} fs {t:=a,s:=b}/\a.length=N/\(∀(i:Nat),i∉cR d []->a[i]? =t[i]?)/\Mx s b/\
     ∃zs,Sim.evs a (if w then[.t c,eX x,.c (.v (.bool false))]else[.t c,.c (.v (.bool true)),eX x])=some zs/\doOp (Sim.look b.h) lim b.n .pick zs=some {v:=.v (.bool y)}:=by
 have k:∀a:aA AV,(∀(i:Nat),i∉cR d []->a[i]? =t[i]?)->a[c]? =some (.v (.bool m)):=fun a q=>by
  rw[q c (fun hi=>fE d B c hi (by simp))];exact hc
 have skip:m≠w->∃fs a b,Tr T X.is dr lim (rR (some (c,w)) d) {t:=t,s:=s} fs {t:=a,s:=b}/\a.length=N/\(∀(i:Nat),i∉cR d []->a[i]? =t[i]?)/\Mx s b:=by
  intro p;obtain⟨fs,a,l,f,g,j⟩:=fU (T:=T) (NF:=X.is) (dr:=dr) (lim:=lim) (s:=s) (some (c,w)) d (c::A) [] t B (fun G w' e=>by cases e;simp) (by simp[Sim.wanted,hc,p]) (fun c hc=>by simp at hc);exact⟨fs,a,s,l,f.trans F,g,.refl E.wf⟩
 cases w with
 |true=>
  rw[wZ2,oZ]at hy;cases m with
  |true=>
   rw[wO2 rfl]at hy;obtain⟨fs,a,b,l,f,g,j,u⟩:=IH hy hc;exact⟨fs,a,b,l,g,j,u,[.v (.bool true),.v (.bool y),.v (.bool false)],Mb (k a j) f rfl,rfl⟩
  |false=>
   simp only[wU2,xQ2,wP2]at hy;subst hy;obtain⟨fs,a,b,l,f,g,j⟩:=skip (by simp);obtain⟨z,r⟩:=Cf (c:=0) (i:=0) f D;exact⟨fs,a,b,l,f,g,j,[.v (.bool false),z,.v (.bool false)],Mb (k a g) r rfl,rfl⟩
 |false=>
  rw[xO2,oZ]at hy;cases m with
  |true=>
   simp only[xM2,wP2]at hy;subst hy;obtain⟨fs,a,b,l,f,g,j⟩:=skip (by simp);obtain⟨z,r⟩:=Cf (c:=0) (i:=0) f D;exact⟨fs,a,b,l,f,g,j,[.v (.bool true),.v (.bool true),z],Mb (k a g) rfl r,rfl⟩
  |false=>
   simp only[wU2,xQ2]at hy;obtain⟨fs,a,b,l,f,g,j,u⟩:=IH hy hc;exact⟨fs,a,b,l,g,j,u,[.v (.bool false),.v (.bool true),.v (.bool y)],Mb (k a j) rfl f,rfl⟩
theorem vF (F:∀f xs v,O f xs=some v->oH T f xs v) {N lim:Nat}:∀(ops:iT) (a l:aA Nat) (g:aB (Nat×Bool)) (C:Cx) (n:Nat) (h:bC) (e:fH) (t:aA AV) (s:Hp) (x:PX) (b:Bool),
  dR.opsB O X ops e h n x=some b->dT C e t->cY C n h lim s->t.length=N->kU N a true l ops=true->Qg N x=true->Oe g t->GIn g a->
  ∃fs m s',Tr T X.is dr lim (rR g ops) {t:=t,s:=s} fs {t:=m,s:=s'}/\(eX x).ev m=some (.v (.bool b))/\m.length=N/\(∀(i:Nat),i∉cR ops []->m[i]? =t[i]?)/\Mx s s'
 |.nil,a,l,g,C,n,h,e,t,s,x,b,hk,he,hM,hN,ho,hx,hg,hgi=>by
  unfold dR.opsB at hk
  rw[jL,wH2]at hk
  obtain⟨vs,A,hk⟩:=hk
  obtain⟨ys,h1,h2⟩:=lC he (xs:=[x]) (by simpa using hx) A
  split at hk
  cases hk
  obtain⟨y,_,rfl,h3,h4⟩:=h2.inv_cons
  rw[h4.inv_nil]at h1
  rw[gG h3]at h1
  refine⟨[],t,s,.nil,?_,hN,fun _ _=>rfl,.refl hM.wf⟩
  simp only[yY2,aH3,Sim.evs]at h1
  split at h1
  grind
  cases h1
  exact aE hk
 |.op d k xs kl r,a,l,g,C,n,h,e,t,s,x,b,hk,he,hM,hN,ho,hx,hg,hgi=>by
  simp only[kU,wL2,xG2,iN,zB2]at ho
  obtain⟨⟨⟨Z,S⟩,G⟩,W⟩:=ho
  have q:d∉a:=by simpa using S
  unfold dR.opsB at hk
  rw[jL,wH2]at hk
  obtain⟨vs,A,hk⟩:=hk
  obtain⟨ys,h1,h2⟩:=lC he G A
  cases hst:Lp k with
  |true=>rw[hst]at hk;exact aE hk
  |false=>
   rw[hst,xO2]at hk
   obtain⟨v,h',n',C',y,s',q1,q2,q3,q4,q5,q6,q7,q8⟩:=Th F hM h2 hk
   rw[eY]at q1
   have hd:d<t.length:=by omega
   have u:dT C' ((d,v)::edel e (d::kl)) (t.set d y):=.put hd q2 (fun i w hw=>by
    obtain⟨z,p1,p2,p3⟩:=(he.mono q4).edel (d::kl) i w hw
    exact⟨z,p1,p2,fun J=>p3 (by simp[J])⟩)
   obtain⟨fs,m,V,r1,r2,r3,r4,r5⟩:=vF F r a (d::l) g C' n' h' _ (t.set d y) s' x b q1 u q3 (by simpa using hN) W hx (hg.set hgi q) hgi
   obtain⟨f,hf⟩:=q8 ⟨some d,k,xs.map eX,g⟩ _ t fs _ rfl hg.wanted h1 r1
   have P:Mx s s':=⟨q6.sk,q6.n,q3.wf,q7 hst⟩
   refine⟨_,m,V,hf,r2,r3,fun i hi=>?_,P.trans r5⟩
   simp only[cR,xF2,zK2]at hi
   rw[r4 i hi.2,xL2 (Ne.symm hi.1)]
 |.ifx d c w bd x' kl r,a,l,g,C,n,h,e,t,s,x,b,hk,he,hM,hN,ho,hx,hg,hgi=>by
  simp only[kU,wL2,xG2,iN,zB2,zI2,Bool.false_or]at ho
  obtain⟨⟨⟨⟨⟨Z,S⟩,G⟩,W⟩,U⟩,o6⟩:=ho
  have q:d∉a:=by simpa using S
  unfold dR.opsB at hk
  rw[gQ,wH2]at hk
  obtain⟨cv,L,hk⟩:=hk
  split at hk
  rename_i cb
  rw[cH,wH2]at hk
  obtain⟨y,hy,hk⟩:=hk
  rw[eY]at hk
  obtain⟨cy,B,K⟩:=he c _ L
  rw[gG K]at B
  obtain⟨fs,H,s1,p1,p2,p3,p4,zs,p5,p6⟩:=Gk (T:=T) (O:=O) (X:=X) (dr:=dr) hM hN U G B hy (fun hb M=>vF F bd (c::a) [] (some (c,w)) C n h e t s x' y hb he hM hN U G M (fun E w' e=>by cases e;simp))
  have D:Oe g H:=by
   cases g with
   |none=>trivial
   |some p=>
    obtain⟨E,w'⟩:=p;simp only[Oe]at hg ⊢;rw[p3 E (fun hi=>fE bd U E hi (by simp[hgi E w' rfl]))];exact hg
  have hd:d<H.length:=by omega
  have u:dT C ((d,.v (.bool y))::edel e (d::cR bd kl)) (H.set d (.v (.bool y))):=.put hd (.cl (.v _)) (fun i w hw=>by
   obtain⟨z,q1,q2,q3⟩:=he.edel (d::cR bd kl) i w hw;have R:i∉cR bd []:=fun hi=>q3 (by simp[(dC bd kl i).2 (.inl hi)]);exact⟨z,by rw[p3 i R];exact q1,q2,fun J=>q3 (by simp[J])⟩)
  obtain⟨Y,m,V,r1,r2,r3,r4,r5⟩:=vF F r a (d::l) g C n h _ (H.set d (.v (.bool y))) s1 x b hk u (hM.grow p4) (by simpa using p2) o6 hx (D.set hgi q) hgi;refine⟨_,m,V,p1.append (.op (o:=⟨some d,.pick,_,g⟩) D.wanted p5 rfl p6 r1),r2,r3,fun i hi=>?_,p4.trans r5⟩;simp only[cR,xF2,dC bd (cR r []) i,zK2]at hi;rw[r4 i hi.2.2,xL2 (Ne.symm hi.1),p3 i hi.2.1];exact aE hk
 |.sto k xs kl r,a,l,g,C,n,h,e,t,s,x,b,hk,he,hM,hN,ho,hx,hg,hgi=>by unfold dR.opsB at hk;exact aE hk
 |.ifn d c w bd x' kl r,a,l,g,C,n,h,e,t,s,x,b,hk,he,hM,hN,ho,hx,hg,hgi=>by unfold dR.opsB at hk;exact aE hk
 |.mkfl d ty zero xs kl r,a,l,g,C,n,h,e,t,s,x,b,hk,he,hM,hN,ho,hx,hg,hgi=>by unfold dR.opsB at hk;exact aE hk
 |.lax d es r,a,l,g,C,n,h,e,t,s,x,b,hk,he,hM,hN,ho,hx,hg,hgi=>by unfold dR.opsB at hk;exact aE hk
 |.own d ty es g' r,a,l,g,C,n,h,e,t,s,x,b,hk,he,hM,hN,ho,hx,hg,hgi=>by unfold dR.opsB at hk;exact aE hk
 |.ownc d j ty es g' r,a,l,g,C,n,h,e,t,s,x,b,hk,he,hM,hN,ho,hx,hg,hgi=>by unfold dR.opsB at hk;exact aE hk
 |.laxc d j es r,a,l,g,C,n,h,e,t,s,x,b,hk,he,hM,hN,ho,hx,hg,hgi=>by unfold dR.opsB at hk;exact aE hk
 |.fz d j r,a,l,g,C,n,h,e,t,s,x,b,hk,he,hM,hN,ho,hx,hg,hgi=>by unfold dR.opsB at hk;exact aE hk
 |.laxm d j r,a,l,g,C,n,h,e,t,s,x,b,hk,he,hM,hN,ho,hx,hg,hgi=>by unfold dR.opsB at hk;exact aE hk
end
end Go.P
namespace Go.P
open Go.Sim (AV AO Hp gP upd St IC IX Ex fC CK Wf Out doOp jA exec Foot wanted put)
def lO (C:Cx) (p:Nat->Bool):Cx:=⟨fun k=>if p k then C k else none,C.z⟩
theorem zE {C:Cx} {p:Nat->Bool} {x:PV} {y:AV} (h:RV C x y):∀{d:Nat},mR p d x=true->RV (lO C p) x y:=by
 have lt:∀{k:Nat} {pl:Pl},C k=some pl->p k=true->lO C p k=some pl:=fun h1 h2=>by simp[lO,h2,h1]
 induction h with
 |cl h=>intro d hb;exact .cl h
 |undef=>intro d hb;exact .undef
 |ref h=>intro d hb;cases d with
  |zero=>cases hb
  |succ d=>exact .ref (lt h hb)
 |own h=>intro d hb;cases d with
  |zero=>cases hb
  |succ d=>exact .own (lt h hb)
 |ownn h hy=>intro d hb;cases d with
  |zero=>cases hb
  |succ d=>exact .ownn (lt h hb) hy
 |el h=>intro d hb;cases d with
  |zero=>cases hb
  |succ d=>exact .el (lt h hb)
 |map h=>intro d hb;cases d with
  |zero=>cases hb
  |succ d=>exact .map (lt h hb)
 |yld h=>intro d hb;cases d with
  |zero=>cases hb
  |succ d=>exact .yld (lt h hb)
 |fn h1 h2 v1 v2 i1 i2=>intro d hb;cases d with
  |zero=>cases hb
  |succ d=>
   simp only[mR,wL2]at hb;exact .fn h1 h2 (fun j x y a hy=>i1 j x y a hy (wR2.1 hb.1 x (wT2 a))) (fun j x y a hy=>i2 j x y a hy (wR2.1 hb.2 x (wT2 a)))
 |agg hl hc ih=>intro d hb;cases d with
  |zero=>cases hb
  |succ d=>exact .agg hl (fun j x y a hy=>ih j x y a hy (wR2.1 hb x (wT2 a)))
 |tup hl hc ih=>intro d hb;cases d with
  |zero=>cases hb
  |succ d=>exact .tup hl (fun j x y a hy=>ih j x y a hy (wR2.1 hb x (wT2 a)))
 |zs h=>intro d hb;exact .zs h
 |zm h he=>intro d hb;exact .zm h he
 |zm0=>intro d hb;exact .zm0
theorem zF:∀(h:bC) (k:Nat),iV h k=(aO h k).isSome
 |[],k=>rfl
 |(j,o)::r,k=>by
  simp only[iV,aO,bZ]
  by_cases e:j=k<;>simp[e,zF r k]
section
variable {R:Type}
theorem rT:∀{h:bC} {c:aA Nat} {K:bC->bC->aB R} {r:R},Ln h c K=some r->∃a b,K a b=some r/\∀k,aO a k=(if Eg k c then aO h k else none)/\aO b k=(if Eg k c then none else aO h k)
 |[],c,K,r,hk=>⟨[],[],hk,fun k=>by simp[aO]⟩
 |(j,o)::t,c,K,r,hk=>by
  unfold Ln at hk
  obtain⟨a,b,h1,h2⟩:=rT hk
  cases hm:Eg j c with
  |true=>
   rw[hm,wZ2]at h1
   refine⟨_,_,h1,fun k=>?_⟩
   simp only[aO]
   by_cases e:j=k
   grind
   grind
  |false=>
   rw[hm,xO2]at h1
   refine⟨_,_,h1,fun k=>?_⟩
   simp only[aO]
   by_cases e:j=k
   grind
   grind
theorem Gl:∀{a b:bC} {K:bC->aB R} {r:R},Bo a b K=some r->∃c,K c=some r/\∀k,aO c k=(aO a k).or (aO b k)
 |[],b,K,r,hk=>⟨b,hk,fun k=>by simp[aO]⟩
 |(j,o)::t,b,K,r,hk=>by
  unfold Bo at hk
  obtain⟨c,h1,h2⟩:=Gl hk
  refine⟨_,h1,fun k=>?_⟩
  simp only[aO]
  by_cases e:j=k
  simp[e]
  grind
theorem Gm:∀(a:bC) (K:bC->aB R),Bo a [] K=K a
 |[],K=>rfl
 |(j,o)::t,K=>by unfold Bo;rw[Gm t]
theorem gK {f:PV->aA Nat->(aA Nat->aB R)->aB R} (hf:∀x a K r,f x a K=some r->∃a',K a'=some r):∀(xs:aA PV) (a:aA Nat) (K:aA Nat->aB R) (r:R),qW f xs a K=some r->∃a',K a'=some r
 |[],a,K,r,h=>⟨a,h⟩
 |x::xs,a,K,r,h=>by
  unfold qW at h
  obtain⟨a',h⟩:=hf x a _ r h
  exact gK hf xs a' K r h
theorem Cg {f:PV->aA Nat->(aA Nat->aB R)->aB R} (hf:∀x a K r,f x a K=some r->∃a',K a'=some r):∀(xs:fH) (a:aA Nat) (K:aA Nat->aB R) (r:R),Sp f xs a K=some r->∃a',K a'=some r
 |[],a,K,r,h=>⟨a,h⟩
 |(_,x)::xs,a,K,r,h=>by
  unfold Sp at h
  obtain⟨a',h⟩:=hf x a _ r h
  exact Cg hf xs a' K r h
theorem iO:∀(d:Nat) (x:PV) (a:aA Nat) (K:aA Nat->aB R) (r:R),lK d x a K=some r->∃a',K a'=some r
 |0,x,a,K,r,h=>by unfold lK at h;exact aE h
 |d+1,x,a,K,r,h=>by
  have ih:=iO d
  unfold lK at h
  cases x with
  |ref k o=>exact⟨_,h⟩
  |own k=>exact⟨_,h⟩
  |el k i o=>exact⟨_,h⟩
  |map k=>exact⟨_,h⟩
  |yld k=>exact⟨_,h⟩
  |fn f p q=>
   obtain⟨a',h⟩:=gK ih p a _ r h
   exact gK ih q a' K r h
  |agg cs=>exact gK ih cs a K r h
  |tup cs=>exact gK ih cs a K r h
  |_=>exact⟨_,h⟩
theorem fP {h:bC}:∀(n:Nat) (b a:aA Nat) (K:aA Nat->aB R) (r:R),mQ h n b a K=some r->∃a',K a'=some r
 |0,b,a,K,r,hk=>by unfold mQ at hk;exact aE hk
 |n+1,[],a,K,r,hk=>by unfold mQ at hk;exact⟨a,hk⟩
 |n+1,k::b,a,K,r,hk=>by
  unfold mQ at hk
  cases hm:Eg k a with
  |true=>rw[hm,wZ2]at hk;exact fP n b a K r hk
  |false=>
   rw[hm,xO2,fS,wH2]at hk
   obtain⟨ob,_,hk⟩:=hk
   cases ob with
   |box cs=>
    obtain⟨c,hk⟩:=gK (iO 4) cs b _ r hk
    exact fP n c _ K r hk
   |fl cs=>
    obtain⟨c,hk⟩:=gK (iO 4) cs b _ r hk
    exact fP n c _ K r hk
   |loop N e ps x y busy fin=>
    obtain⟨c,hk⟩:=Cg (iO 4) e b _ r hk
    exact fP n c _ K r hk
   |lst ty e g rows=>exact fP n b _ K r hk
   |lz ty e dp rows=>exact fP n b _ K r hk
   |mp es=>exact fP n b _ K r hk
def Dif (hs:bC) (C C':Cx):Prop:=(∀k,C' k=C k\/∃o,(k,o)∈hs/\gB o=false)/\∀id o,C.z id=some o->C'.z id=some o
theorem tH:∀{hs:bC} {e:fH} {h:bC} {K:fH->bC->aB R} {r:R},pC hs e h K=some r->∃e' h',K e' h'=some r/\
  (∀i w,eW e' i=some w->∃v,eW e i=some v/\∀{C C':Cx} {y:AV},Dif hs C C'->RV C v y->RV C' w y)/\
  (∀j,aO h' j=none↔aO h j=none)/\∀j o',aO h' j=some o'->∃o,aO h j=some o/\gB o'=gB o/\
   ∀{C C':Cx} {L:Nat->aB AO} {lim nS:Nat} {pl:Pl},Dif hs C C'->kT C L lim nS o pl->kT C' L lim nS o' pl
 |[],e,h,K,r,hk=>by
  refine⟨e,h,hk,fun i w hw=>⟨w,hw,fun{C C' y} hd hv=>?_⟩,fun j=>Iff.rfl,fun j o m=>⟨o,m,rfl,fun{C C' L lim nS pl} hd p=>?_⟩⟩
  have:∀k,C' k=C k:=fun k=>(hd.1 k).elim id (fun⟨_,h1,_⟩=>by simp at h1)
  exact hv.mono ⟨fun k pl h=>(this k).trans h,hd.2⟩
  have:∀k,C' k=C k:=fun k=>(hd.1 k).elim id (fun⟨_,h1,_⟩=>by simp at h1)
  exact p.mono (wK2 _) ⟨fun k pl h=>(this k).trans h,hd.2⟩ (fun _ _ _ _ _=>rfl)
 |(k,o)::t,e,h,K,r,hk=>by
  have other:gB o=true->pC t e h K=some r->∃e' h',K e' h'=some r/\
    (∀i w,eW e' i=some w->∃v,eW e i=some v/\∀{C C':Cx} {y:AV},Dif ((k,o)::t) C C'->RV C v y->RV C' w y)/\
    (∀j,aO h' j=none↔aO h j=none)/\∀j o',aO h' j=some o'->∃c,aO h j=some c/\gB o'=gB c/\
     ∀{C C':Cx} {L:Nat->aB AO} {lim nS:Nat} {pl:Pl},Dif ((k,o)::t) C C'->kT C L lim nS c pl->kT C' L lim nS o' pl:=by
   intro s hk;obtain⟨e',h',q1,q2,q3,q4⟩:=tH hk
   have hd:∀{C C':Cx},Dif ((k,o)::t) C C'->Dif t C C':=fun{C C'} hd=>⟨fun j=>by
    rcases hd.1 j with h1|⟨c,h1,hx⟩
    exact .inl h1;rcases xF2.1 h1 with h2|h2;cases h2;rw[s]at hx;cases hx;exact .inr ⟨_,h2,hx⟩,hd.2⟩
   refine⟨e',h',q1,fun i w hw=>?_,q3,fun j o' m=>?_⟩;obtain⟨v,p1,p2⟩:=q2 i w hw;exact⟨v,p1,fun d hv=>p2 (hd d) hv⟩;obtain⟨c,p1,p2,p3⟩:=q4 j o' m;exact⟨c,p1,p2,fun d p=>p3 (hd d) p⟩
  have f:gB o=false->(pQ k e fun e=>lF k h fun h=>pC t e h K)=some r->∃e' h',K e' h'=some r/\
    (∀i w,eW e' i=some w->∃v,eW e i=some v/\∀{C C':Cx} {y:AV},Dif ((k,o)::t) C C'->RV C v y->RV C' w y)/\
    (∀j,aO h' j=none↔aO h j=none)/\∀j o',aO h' j=some o'->∃c,aO h j=some c/\gB o'=gB c/\
     ∀{C C':Cx} {L:Nat->aB AO} {lim nS:Nat} {pl:Pl},Dif ((k,o)::t) C C'->kT C L lim nS c pl->kT C' L lim nS o' pl:=by
   intro hb hk;obtain⟨e2,hk,q⟩:=kX _ _ _ hk;obtain⟨h2,hk,n⟩:=mG _ _ _ hk;obtain⟨e',h',q1,q2,q3,q4⟩:=tH hk
   have l:∀{C C':Cx},Dif ((k,o)::t) C C'->lZ k C ⟨fun j=>if j=k then C' j else C j,C'.z⟩/\Dif t ⟨fun j=>if j=k then C' j else C j,C'.z⟩ C':=fun{C C'} hd=>by
    refine⟨⟨fun j m=>wN2 m,hd.2⟩,⟨fun j=>?_,fun _ _ h=>h⟩⟩;by_cases e:j=k;exact .inl (by simp[e]);rcases hd.1 j with h1|⟨c,h1,hx⟩
    exact .inl (by simp[e,h1]);rcases xF2.1 h1 with h2|h2;cases h2;exact absurd rfl e;exact .inr ⟨_,h2,hx⟩
   refine⟨e',h',q1,fun i w hw=>?_,fun j=>(q3 j).trans (n.1 j),fun j o' m=>?_⟩;obtain⟨v,p1,p2⟩:=q2 i w hw;obtain⟨x,w1,w2⟩:=q i v p1;exact⟨x,w1,fun d hv=>p2 (l d).2 (w2 (l d).1 hv)⟩;obtain⟨c,p1,p2,p3⟩:=q4 j o' m;obtain⟨u,w1,w2,w3⟩:=n.2 j c p1;exact⟨u,w1,p2.trans w2,fun d p=>p3 (l d).2 (w3 (l d).1 p)⟩
  unfold pC at hk;cases o with
  |box cs=>exact other rfl hk
  |mp es=>exact other rfl hk
  |fl fs=>exact other rfl hk
  |loop N e ps a b busy fin=>exact other rfl hk
  |lz ty e1 dp rows=>exact f rfl hk
  |lst ty e1 g rows=>
   cases hfx:iC ty with
   |true=>
    simp only[hfx,wZ2]at hk;exact other hfx hk
   |false=>
    simp only[hfx,xO2]at hk;exact f hfx hk
end
end Go.P
namespace Go.P
open Go.Sim (AV AO Hp gP upd St IC IX Ex fC CK Wf Out doOp jA exec Foot wanted put)
section
variable {R:Type} {C:Cx} {n:Nat} {h:bC} {lim:Nat} {s:Hp}
theorem Ci:∀{e:fH} {i:Nat} {v:PV},eW e i=some v->(i,v)∈e
 |[],i,v,h=>by simp[eW]at h
 |(j,w)::r,i,v,h=>by
  simp only[eW]at h
  split at h
  grind
  exact yA2 _ (Ci h)
theorem Mc:∀{h:bC} {i:Nat} {v:fQ},aO h i=some v->(i,v)∈h
 |[],i,v,h=>by simp[aO]at h
 |(j,w)::r,i,v,h=>by
  simp only[aO]at h
  split at h
  grind
  exact yA2 _ (Mc h)
theorem Ig {p:Nat->Bool} {xs:aA PV} {ys:aA AV} {d:Nat} (h:LR (RV C) xs ys) (hp:xs.all (mR p d)=true):LR (RV (lO C p)) xs ys:=
 ⟨h.1,fun j x y a b=>zE (h.2 j x y a b) (wR2.1 hp x (wT2 a))⟩
theorem bO1 {p:Nat->Bool} {L:Nat->aB AO} {nS:Nat} {o:fQ} {pl:Pl} (j:Hx p o=true) (h:kT C L lim nS o pl):kT (lO C p) L lim nS o pl:=by
 cases o with
 |box cs=>
  cases pl with
  |nil=>exact h
  |atp id ver e len=>
   obtain⟨h1,h2,ty,esz,row,h3,h4⟩:=h;exact⟨h1,h2,ty,esz,row,h3,Ig h4 j⟩
 |lst ty e g rows=>cases pl<;>exact h
 |lz ty e dp rows=>cases pl<;>exact h
 |mp es=>cases pl<;>exact h
 |fl fs=>
  cases pl with
  |nil=>exact h
  |atp id ver e len=>
   obtain⟨h1,h2,h3,h4,ty,els,h5,c,k⟩:=h;refine⟨h1,h2,h3,h4,ty,els,h5,c,fun i f row a b=>Ig (d:=4) (k i f row a b) ?_⟩;have:=wR2.1 j f (wT2 a);simp[this]
 |loop N e ps a b busy fin=>
  cases pl with
  |nil=>exact h
  |atp id ver e' len=>
   obtain⟨h1,h2,st,pend,tmps,h3,h4,h5,c⟩:=h;refine⟨h1,h2,st,pend,tmps,h3,h4,fun i v hv=>?_,c⟩;obtain⟨y,l,m⟩:=h5 i v hv;exact⟨y,l,zE m (wR2.1 j _ (Ci hv))⟩
theorem vG {p:Nat->Bool}:∀{h:bC},kI p h=true->∀{k:Nat} {o:fQ},aO h k=some o->Hx p o=true
 |[],_,k,o,h=>by simp[aO]at h
 |(j,o')::r,hp,k,o,h=>by
  simp only[kI,wL2]at hp
  simp only[aO]at h
  split at h
  cases h;exact hp.1
  exact vG hp.2 h
theorem tJ:∀{h:bC} {k:Nat},aO h k≠none->k∈tD h
 |[],k,h=>by simp[aO]at h
 |(j,o)::r,k,h=>by
  simp only[aO]at h
  simp only[tD,xF2]
  split at h
  omega
  exact .inr (tJ h)
theorem wX {a:bC}:∀{ks:aA Nat},Vv a ks=true->∀k∈ks,aO a k≠none
 |[],_,k,hk=>by simp at hk
 |j::r,h,k,hk=>by
  unfold Vv at h
  cases hh:iV a j with
  |false=>rw[hh]at h;cases h
  |true=>
   rw[hh,wZ2]at h
   rcases xF2.1 hk with rfl|hk
   rw[zF]at hh
   cases hg:aO a k with
   |none=>rw[hg]at hh;cases hh
   |some o=>simp
   exact wX h k hk
theorem Gn {hs:bC}:∀{a:bC},Vu hs n a=true->∀{k:Nat},aO a k≠none->aO hs k≠none\/n<=k
 |[],_,k,hk=>by simp[aO]at hk
 |(j,o)::r,h,k,hk=>by
  unfold Vu at h
  cases b:(iV hs j||Nat.ble n j)with
  |false=>rw[b]at h;cases h
  |true=>
   rw[b,wZ2]at h
   simp only[aO]at hk
   split at hk
   rename_i e
   subst e
   simp only[wY2,zF,Nat.ble_eq]at b
   rcases b with b|b
   grind
   exact .inr b
   exact Gn h hk
theorem kK {h:bC} {k:Nat}:iV h k=true↔aO h k≠none:=by
 rw[zF];cases aO h k<;>simp
theorem cY.part {hs:bC} (g:cY C n h lim s) (f:∀k o,aO hs k=some o->aO h k=some o) (m:kI (iV hs) hs=true):cY (lO C (iV hs)) n hs lim s:=by
 have j:∀k,aO hs k≠none->aO h k≠none:=fun k hk=>by
  cases hc:aO hs k with
  |none=>exact absurd hc hk
  |some o=>rw[f k o hc];simp
 have i:∀k pl,lO C (iV hs) k=some pl->C k=some pl:=fun k pl hk=>by
  simp only[lO]at hk;split at hk;exact hk;cases hk
 refine⟨⟨fun k o hk=>?_,fun k k' id v e l v' e' l' a b c d=>g.hr.inj k k' id v e l v' e' l' (j k a) (j k' b) (i _ _ c) (i _ _ d),fun id o p=>?_⟩,fun k pl hk=>g.dom k pl (i k pl hk),g.wf,g.lim⟩;obtain⟨pl,h1,h2⟩:=g.hr.ob k o (f k o hk);refine⟨pl,?_,bO1 (vG m hk) h2⟩;simp only[lO];rw[wO2 (kK.2 (by rw[hk];simp))];exact h1;obtain⟨z1,z2,z3,z4⟩:=g.hr.zr id o p;exact⟨z1,z2,fun k v e l a b=>z3 k v e l (j k a) (i _ _ b),z4⟩
theorem rU {hs:bC}:∀{a:bC},Vw hs a=true->∀{k:Nat},aO a k≠none->aO hs k≠none
 |[],_,k,hk=>by simp[aO]at hk
 |(j,o)::r,h,k,hk=>by
  unfold Vw at h
  cases hh:iV hs j with
  |false=>rw[hh]at h;cases h
  |true=>
   rw[hh,wZ2]at h
   simp only[aO]at hk
   split at hk
   rename_i e;subst e;exact kK.1 hh
   exact rU h hk
theorem Ih:∀(h:bC) (m:Nat),m<=bnd h m
 |[],m=>wK2 _
 |(k,o)::r,m=>by
  unfold bnd
  cases hb:Nat.blt k m with
  |true=>rw[wZ2];exact Ih r m
  |false=>
   rw[xO2]
   have:=Ih r (k+1)
   have h2:¬k<m:=fun a=>by rw[<-zB2,hb]at a;cases a
   omega
theorem Cj:∀(h:bC) (m k:Nat),aO h k≠none->k<bnd h m
 |[],m,k,hk=>by simp[aO]at hk
 |(j,o)::r,m,k,hk=>by
  simp only[aO]at hk
  unfold bnd
  cases hb:Nat.blt j m with
  |true=>
   rw[wZ2]
   split at hk
   rename_i e
   rw[zB2]at hb
   have:=Ih r m
   omega
   exact Cj r m k hk
  |false=>
   rw[xO2]
   split at hk
   have:=Ih r (j+1);omega
   exact Cj r (j+1) k hk
theorem Ii {P:AV->Hp->Prop} {run:bC->Nat->(PV->bC->Nat->aB (PV×bC×Nat))->aB (PV×bC×Nat)} {xs:aA PV} {ys:aA AV} {e:fH} {t:aA AV} {kill:aA Nat} {nw:Bool} {K:PV->fH->bC->Nat->aB R} {r:R}
  (E:cY C n h lim s) (he:dT C e t) (hx:LR (RV C) xs ys)
  (b6:∀(hs:bC) (C0:Cx) (m:Nat) (K':PV->bC->Nat->aB (PV×bC×Nat)) (r':PV×bC×Nat),cY C0 m hs lim s->LR (RV C0) xs ys->run hs m K'=some r'->
   ∃v h' n' C' y s',K' v h' n'=some r'/\RV C' v y/\cY C' n' h' lim s'/\m<=n'/\Fr C0 hs s C' h' s'/\P y s')
  (hk:inK run nw xs e h n kill K=some r):
  ∃v e' h' n' C' y s',K v e' h' n'=some r/\RV C' v y/\(∀i w,eW e' i=some w->∃z,t[i]? =some z/\RV C' w z/\i∉kill)/\cY C' n' h' lim s'/\n<=n'/\Fr C h s C' h' s'/\P y s':=by
 unfold inK at hk;obtain⟨d8,hk⟩:=gK (iO 5) _ _ _ _ hk;obtain⟨ns,hk⟩:=fP _ _ _ _ _ hk;obtain⟨hs,T,hk,u⟩:=rT hk;cases hch:(xs.all (mR (iV hs) 5)&&kI (iV hs) hs)with
 |false=>rw[hch]at hk;exact aE hk
 |true=>
 rw[hch,wZ2,cH,wH2]at hk;obtain⟨r',hq,hk⟩:=hk;simp only[wL2]at hch
 have G:∀k o,aO hs k=some o->aO h k=some o:=fun k o f=>by
  rw[(u k).1]at f;split at f;exact f;cases f
 have b7:∀{k},aO hs k≠none->k<n:=fun{k} hk=>by
  cases hc:aO hs k with
  |none=>exact absurd hc hk
  |some o=>obtain⟨pl,p1,_⟩:=E.hr.ob k o (G k o hc);exact E.dom k pl p1
 have F:=E.part G hch.2
 have b9:cY (lO C (iV hs)) (bif nw then n else bnd hs 0) hs lim s:=⟨F.hr,(fun k pl j=>by
  cases nw with
  |true=>exact F.dom k pl j
  |false=>
   simp only[lO]at j;split at j;rename_i O;exact Cj hs 0 k (kK.1 O);cases j),F.wf,F.lim⟩
 obtain⟨v,h',n',C',y,s',w1,w2,w3,w4,w5,w6⟩:=b6 hs _ _ _ r' b9 (Ig hx hch.1) hq;unfold Eh at w1;obtain⟨d7,w1⟩:=gK (iO 5) _ _ _ _ w1;obtain⟨d9,w1⟩:=fP _ _ _ _ _ w1;obtain⟨h2,_,w1,U⟩:=rT w1;cases hch2:(Vv h2 (tD hs)&&(bif nw then Vu hs (bif nw then n else bnd hs 0) h2 else Vw hs h2)&&(mR (iV h2) 5 v&&kI (iV h2) h2))with
 |false=>rw[hch2]at w1;exact aE w1
 |true=>
 rw[hch2,wZ2]at w1;cases w1;simp only[wL2]at hch2;obtain⟨⟨c1,c2⟩,c3,c4⟩:=hch2;have d2:∀{k},aO hs k≠none->aO h2 k≠none:=fun{k} hk=>wX c1 k (tJ hk)
 have V:∀{k},aO h2 k≠none->aO hs k≠none\/n<=k:=fun{k} S=>by
  cases nw with
  |true=>exact Gn c2 S
  |false=>exact .inl (rU c2 S)
 have A:∀k o,aO h2 k=some o->aO h' k=some o:=fun k o f=>by
  rw[(U k).1]at f;split at f;exact f;cases f
 have d1:=w3.part A c4;rw[Sw]at hk;simp only[Gm,eY]at hk;obtain⟨e',H,hk,k1,k2,k3⟩:=tH hk;obtain⟨hc,hk,k4⟩:=Gl hk;let C3:Cx:=⟨fun k=>if iV h2 k then C' k else C k,C'.z⟩
 let C1:Cx:=⟨fun k=>if k<n then C3 k else none,C'.z⟩
 have c3in:∀{k},aO h2 k≠none->C3 k=C' k:=fun{k} hk=>wO2 (kK.2 hk);have c3out:∀{k},aO h2 k=none->C3 k=C k:=fun{k} hk=>wN2 (fun O=>kK.1 O hk)
 have S:∀{k},aO h k≠none->k<n:=fun{k} hk=>by
  cases hc:aO h k with
  |none=>exact absurd hc hk
  |some o=>obtain⟨pl,p1,_⟩:=E.hr.ob k o hc;exact E.dom k pl p1
 have d5:∀{k},aO hs k≠none->aO h k≠none:=fun{k} hk=>by
  cases hc:aO hs k with
  |none=>exact absurd hc hk
  |some o=>rw[G k o hc];simp
 have rs:∀{k},aO hs k≠none->lO C (iV hs) k=C k:=fun{k} hk=>by simp only[lO];rw[wO2 (kK.2 hk)]
 have d6:∀{k pl},lO C (iV hs) k=some pl->C k=some pl:=fun{k pl} hk=>by
  simp only[lO]at hk;split at hk;exact hk;cases hk
 have Y:∀{k pl},lO C' (iV h2) k=some pl->C3 k=some pl:=fun{k pl} hk=>by
  simp only[lO]at hk;split at hk;rename_i O;rw[c3in (kK.1 O)];exact hk;cases hk
 have Z:Dif h2 C C1:=⟨fun k=>(by
  by_cases b0:k<n;have e1:C1 k=C3 k:=wO2 b0;rw[e1];by_cases g:aO h2 k=none;exact .inl (c3out g);rw[c3in g];rcases V g with hq|hq;cases hc2:aO hs k with
  |none=>exact absurd hc2 hq
  |some o=>
   obtain⟨o',q1,q2⟩:=w5.kd k o hc2
   have q3:aO h2 k=some o':=by
    cases hc3:aO h2 k with
    |none=>exact absurd hc3 g
    |some o2=>rw[A k o2 hc3]at q1;exact q1
   cases hb:gB o' with
   |true=>left;rw[(q2 hb).2,rs hq]
   |false=>
    right;exact⟨o',Mc q3,hb⟩
  omega;left;have:C1 k=none:=wN2 b0;rw[this,aO1 E (by omega)]),w5.zl⟩
 have c13:C1.le C3:=⟨fun k pl hk=>(by
  simp only[C1]at hk;split at hk;exact hk;cases hk),fun _ _ h=>h⟩
 have M:∀{k o'},aO H k=some o'->∃o,aO h k=some o/\aO hs k=none/\aO h2 k=none/\gB o'=gB o/\∀{L:Nat->aB AO} {lim nS:Nat} {pl:Pl},kT C L lim nS o pl->kT C1 L lim nS o' pl:=fun{k o'} f=>by
  obtain⟨o,q1,q2,q3⟩:=k3 k o' f;rw[(u k).2]at q1;split at q1;cases q1;rename_i W;have h1:aO hs k=none:=by rw[(u k).1,wN2 W]
  refine⟨o,q1,h1,?_,q2,fun d4=>q3 Z d4⟩;cases hc2:aO h2 k with
  |none=>rfl
  |some o2=>
   rcases V (k:=k) (by rw[hc2];simp)with q|q;exact absurd h1 q;have:=S (k:=k) (by rw[q1];simp);omega
 have N:∀{k},aO hc k≠none->aO h2 k≠none\/(aO h2 k=none/\aO H k≠none):=fun{k} hk=>by
  rw[k4 k]at hk;cases hc2:aO h2 k with
  |none=>right;refine⟨rfl,?_⟩;rw[hc2]at hk;simpa using hk
  |some o=>left;simp
 have p:∀{k},aO H k≠none->aO h k≠none/\aO hs k=none/\aO h2 k=none:=fun{k} hk=>by
  cases hc2:aO H k with
  |none=>exact absurd hc2 hk
  |some o'=>obtain⟨o,q1,q2,q3,_⟩:=M hc2;exact⟨by rw[q1];simp,q2,q3⟩
 have J:∀{k},aO h2 k≠none->aO h' k≠none:=fun{k} hk=>by
  cases hc2:aO h2 k with
  |none=>exact absurd hc2 hk
  |some o=>rw[A k o hc2];simp
 have B:∀{id},Own (lO C (iV hs)) hs id->∃k v e l,aO hs k≠none/\aO h k≠none/\C k=some (.atp id v e l):=fun{id} T=>by
  obtain⟨k,v,e,l,q1,q2⟩:=T;exact⟨k,v,e,l,q1,d5 q1,d6 q2⟩
 have D:∀{k id v e l},aO h k≠none->aO hs k=none->C k=some (.atp id v e l)->¬Own (lO C (iV hs)) hs id:=fun{k id v e l} a b c T=>by
  obtain⟨k',v',e',l',q1,q2,q3⟩:=B T;have:=E.hr.inj k k' id _ _ _ _ _ _ a q2 c q3;subst this;exact q1 b
 have b8:∀{k k' id v e l v' e' l'},aO h2 k≠none->aO H k'≠none->C3 k=some (.atp id v e l)->C3 k'=some (.atp id v' e' l')->False:=fun{k k' id v e l v' e' l'} a b c d=>by
  obtain⟨b1,b2,b3⟩:=p b;rw[c3in a]at c;rw[c3out b3]at d;have x:=(E.hr.lt b1 d).2;exact D b1 b2 d (w5.own id x ⟨k,v,e,l,J a,c⟩)
 refine⟨v,e',hc,_,C3,y,s',hk,(zE w2 c3).mono ⟨fun _ _ O=>Y O,fun _ _ h=>h⟩,fun i w hw=>?_,⟨⟨fun k o f=>?_,fun k k' id v e l v' e' l' a b c d=>?_,fun id o hz=>?_⟩,fun k pl j=>?_,w3.wf,w3.lim⟩,?_,⟨w5.sk,w5.n,fun id x hn=>w5.keep id x (fun T=>hn ?_),fun id x T=>?_,fun k o f=>?_,w5.zl,fun id x hz=>?_⟩,w6⟩;obtain⟨v0,q1,q2⟩:=k1 i w hw;obtain⟨z,p1,p2,p3⟩:=he.edel kill i v0 q1;exact⟨z,p1,(q2 Z p2).mono c13,p3⟩;rw[k4 k]at f;cases hc2:aO h2 k with
 |some o2=>
  rw[hc2]at f;cases f;obtain⟨pl,q1,q2⟩:=d1.hr.ob k _ hc2;exact⟨pl,Y q1,q2.mono (wK2 _) ⟨fun _ _ O=>Y O,fun _ _ h=>h⟩ (fun _ _ _ _ _=>rfl)⟩
 |none=>
  rw[hc2]at f;obtain⟨o0,q1,q2,q3,q4,q5⟩:=M (by simpa using f);obtain⟨pl,p1,p2⟩:=E.hr.ob k o0 q1;refine⟨pl,by rw[c3out hc2];exact p1,(q5 p2).mono w5.n c13 (fun id v e l hp=>?_)⟩;subst hp;exact w5.keep id p2.lt.2 (D (by rw[q1];simp) q2 p1)
 rcases N a with a|⟨a1,a⟩<;>rcases N b with b|⟨b1,b⟩
 rw[c3in a]at c;rw[c3in b]at d;exact w3.hr.inj k k' id v e l v' e' l' (J a) (J b) c d;exact(b8 a b c d).elim;exact(b8 b a d c).elim;rw[c3out a1]at c;rw[c3out b1]at d;exact E.hr.inj k k' id v e l v' e' l' (p a).1 (p b).1 c d;obtain⟨z1,z2,z3,z4⟩:=w3.hr.zr id o hz;refine⟨z1,z2,fun k v e l a b=>?_,z4⟩;rcases N a with a|⟨a1,a⟩
 rw[c3in a]at b;exact z3 k v e l (J a) b;rw[c3out a1]at b;obtain⟨b1,b2,b3⟩:=p a;have x:=(E.hr.lt b1 b).2;rcases w5.zn id x (by rw[show C'.z id=some o from hz];simp)with X|X;cases hz1:C.z id with
 |none=>exact X hz1
 |some o1=>exact(E.hr.zr id o1 hz1).2.2.1 k v e l b1 b
 exact D b1 b2 b X;cases nw with
 |true=>
  simp only[wZ2]at w4 ⊢;by_cases g:aO h2 k=none;rw[c3out g]at j;have:=E.dom k pl j;omega;rw[c3in g]at j;exact w3.dom k pl j
 |false=>
  simp only[xO2];by_cases g:aO h2 k=none;rw[c3out g]at j;exact E.dom k pl j;exact b7 (rU c2 g)
 cases nw with
 |true=>exact w4
 |false=>exact wK2 _
 obtain⟨k,v,e,l,q1,q2,q3⟩:=B T;exact⟨k,v,e,l,q2,q3⟩;obtain⟨k,v,e,l,q1,q2⟩:=T;rcases N q1 with a|⟨a1,a⟩
 rw[c3in a]at q2;obtain⟨k,v,e,l,p1,p2,p3⟩:=B (w5.own id x ⟨k,v,e,l,J a,q2⟩);exact⟨k,v,e,l,p2,p3⟩;rw[c3out a1]at q2;exact⟨k,v,e,l,(p a).1,q2⟩;rw[k4 k];by_cases W:aO hs k=none
 have b4:¬Eg k ns=true:=fun d3=>by
  rw[(u k).1,wO2 d3,f]at W;cases W
 have a0:aO T k=some o:=by rw[(u k).2,wN2 b4];exact f
 cases hc2:aO H k with
 |none=>rw[(k2 k).1 hc2]at a0;cases a0
 |some o'=>
  obtain⟨o0,q1,q2,q3,q4,_⟩:=M hc2;rw[f]at q1;cases q1;exact⟨o',by rw[q3];rfl,fun hb=>⟨by rw[<-q4];exact hb,c3out q3⟩⟩
 cases hc2:aO hs k with
 |none=>exact absurd hc2 W
 |some o0=>
  have b5:=G k o0 hc2;rw[f]at b5;cases b5;obtain⟨o',q1,q2⟩:=w5.kd k o hc2;have g:=d2 W;cases hc3:aO h2 k with
  |none=>exact absurd hc3 g
  |some o2=>
   have:=A k o2 hc3;rw[q1]at this;cases this;exact⟨o',rfl,fun hb=>⟨(q2 hb).1,by rw[c3in g,(q2 hb).2,rs W]⟩⟩
 rcases w5.zn id x hz with h1|h1;exact .inl h1;obtain⟨k,v,e,l,q1,q2,q3⟩:=B h1;exact .inr ⟨k,v,e,l,q2,q3⟩
def fxo:fQ->fQ
 |.lst ty e g rows=>.lst (ty+4294967296) e g rows
 |o=>o
def Gp:fQ->Bool
 |.lst .. =>true
 |_=>false
theorem rU1 (ty:Nat):iC (ty+4294967296)=true:=by
 unfold iC;rw[Nat.ble_eq];omega
theorem iF1 {ty:Nat}:Dx (ty+4294967296)=ty:=by
 unfold Dx;rw[rU1,wZ2];omega
theorem bP1 {ty:Nat} (h:iC ty=false):Dx ty=ty:=by
 unfold Dx;rw[h,xO2]
theorem iG1 {ty:Nat} (h:iC ty=true):Dx ty=ty-4294967296:=by
 unfold Dx;rw[h,wZ2]
theorem Tj {L:Nat->aB AO} {nS ty ty' e:Nat} {g:Bool} {rows:aA (aA PV)} {pl:Pl} (a:kT C L lim nS (.lst ty e g rows) pl) (b:Dx ty'=Dx ty):kT C L lim nS (.lst ty' e g rows) pl:=by
 cases pl with
 |nil=>exact a
 |atp id ver e' len=>
  obtain⟨a1,a2,a3,a4,els,a5,a6⟩:=a;exact⟨a1,a2,a3,a4,els,by rw[b];exact a5,a6⟩
theorem Ck:∀{h:bC} {K:bC->aB R} {r:R},Pv h K=some r->∃h1,K h1=some r/\∀k,aO h1 k=(aO h k).map fxo/\∀ty e g rows,aO h k=some (.lst ty e g rows)->iC ty=false
 |[],K,r,hk=>⟨[],hk,fun k=>⟨rfl,fun _ _ _ _ h=>by simp[aO]at h⟩⟩
 |(j,o)::t,K,r,hk=>by
  unfold Pv at hk
  have other:Gp o=false->Pv t (fun r=>K ((j,o)::r))=some r->∃h1,K h1=some r/\∀k,aO h1 k=(aO ((j,o)::t) k).map fxo/\∀ty e g rows,aO ((j,o)::t) k=some (.lst ty e g rows)->iC ty=false:=by
   intro hl hk;obtain⟨h1,q1,q2⟩:=Ck hk;refine⟨_,q1,fun k=>?_⟩;by_cases e:j=k;simp only[aO,wO2 e,xP2];refine⟨?_,fun _ _ _ _ h=>?_⟩;cases o<;>first|rfl|simp[Gp]at hl
   grind
   simp only[aO,wN2 e];exact q2 k
  cases o with
  |lst ty e g rows=>
   cases hfx:iC ty with
   |true=>simp only[hfx,wZ2]at hk;exact aE hk
   |false=>
    simp only[hfx,xO2]at hk;obtain⟨h1,q1,q2⟩:=Ck hk;refine⟨_,q1,fun k=>?_⟩;by_cases c:j=k;simp only[aO,wO2 c,xP2];exact⟨rfl,fun _ _ _ _ h=>by cases h;exact hfx⟩;simp only[aO,wN2 c];exact q2 k
  |box cs=>exact other rfl hk
  |mp es=>exact other rfl hk
  |fl fs=>exact other rfl hk
  |loop N e ps a b busy fin=>exact other rfl hk
  |lz ty e dp rows=>exact aE hk
def UnR (h:bC) (k:Nat) (b c:fQ):Prop:=∃a,aO h k=some a/\
 ((∃ty e g rows,b=.lst ty e g rows/\iC ty=true/\iC (ty-4294967296)=false/\c=.lst (ty-4294967296) e g rows)\/(c=b/\Gp a=false))
theorem Gq:∀{h h2:bC} {K:bC->aB R} {r:R},yG h h2 K=some r->∃h3,K h3=some r/\∀k,(aO h3 k=none↔aO h2 k=none)/\∀c,aO h3 k=some c->∃d,aO h2 k=some d/\UnR h k d c
 |h,[],K,r,hk=>⟨[],hk,fun k=>⟨Iff.rfl,fun _ h=>by simp[aO]at h⟩⟩
 |h,(j,o)::t,K,r,hk=>by
  unfold yG at hk
  rw[fS,wH2]at hk
  obtain⟨f,h0,hk⟩:=hk
  have step:∀c,UnR h j o c->yG h t (fun r=>K ((j,c)::r))=some r->∃h3,K h3=some r/\∀k,(aO h3 k=none↔aO ((j,o)::t) k=none)/\∀c,aO h3 k=some c->∃d,aO ((j,o)::t) k=some d/\UnR h k d c:=by
   intro c i hk;obtain⟨h3,q1,q2⟩:=Gq hk;refine⟨_,q1,fun k=>?_⟩;by_cases e:j=k;subst e;simp only[aO,wO2];exact⟨by simp,fun l h4=>⟨o,rfl,by cases h4;exact i⟩⟩;simp only[aO,wN2 e];exact q2 k
  have no:Gp f=false->Gp o=false->yG h t (fun r=>K ((j,o)::r))=some r->∃h3,K h3=some r/\∀k,(aO h3 k=none↔aO ((j,o)::t) k=none)/\∀c,aO h3 k=some c->∃d,aO ((j,o)::t) k=some d/\UnR h k d c:=
   fun hl _ hk=>step o ⟨f,h0,.inr ⟨rfl,hl⟩⟩ hk
  cases f with
  |lst ty0 e0 g0 rows0=>
   cases o with
   |lst ty e g rows=>
    cases hfx:(iC ty&& !(iC (ty-4294967296)))with
    |false=>simp only[hfx,xO2]at hk;exact aE hk
    |true=>
     simp only[hfx,wZ2]at hk;simp only[wL2,xG2]at hfx;exact step _ ⟨_,h0,.inl ⟨ty,e,g,rows,rfl,hfx.1,hfx.2,rfl⟩⟩ hk
   |_=>exact aE hk
  |box cs=>cases o with
   |lst ty e g rows=>exact aE hk
   |lz ty e dp rows=>exact aE hk
   |_=>exact no rfl rfl hk
  |mp es=>cases o with
   |lst ty e g rows=>exact aE hk
   |lz ty e dp rows=>exact aE hk
   |_=>exact no rfl rfl hk
  |fl fs=>cases o with
   |lst ty e g rows=>exact aE hk
   |lz ty e dp rows=>exact aE hk
   |_=>exact no rfl rfl hk
  |loop N e ps a b busy fin=>cases o with
   |lst ty e g rows=>exact aE hk
   |lz ty e dp rows=>exact aE hk
   |_=>exact no rfl rfl hk
  |lz ty0 e0 dp0 rows0=>cases o with
   |lst ty e g rows=>exact aE hk
   |lz ty e dp rows=>exact aE hk
   |_=>exact no rfl rfl hk
theorem bQ1 {fx:Bool} {P:AV->Hp->Prop} {run:bC->Nat->(PV->bC->Nat->aB (PV×bC×Nat))->aB (PV×bC×Nat)} {xs:aA PV} {ys:aA AV} {e:fH} {t:aA AV} {kill:aA Nat} {nw:Bool} {K:PV->fH->bC->Nat->aB R} {r:R}
  (q:cY C n h lim s) (he:dT C e t) (L:LR (RV C) xs ys)
  (p:∀(hs:bC) (C0:Cx) (m:Nat) (K':PV->bC->Nat->aB (PV×bC×Nat)) (r':PV×bC×Nat),cY C0 m hs lim s->LR (RV C0) xs ys->run hs m K'=some r'->
   ∃v h' n' C' y s',K' v h' n'=some r'/\RV C' v y/\cY C' n' h' lim s'/\m<=n'/\Fr C0 hs s C' h' s'/\P y s')
  (hk:rE1 fx run nw xs e h n kill K=some r):
  ∃v e' h' n' C' y s',K v e' h' n'=some r/\RV C' v y/\(∀i w,eW e' i=some w->∃z,t[i]? =some z/\RV C' w z/\i∉kill)/\cY C' n' h' lim s'/\n<=n'/\Fr C h s C' h' s'/\P y s':=by
 cases fx with
 |false=>exact Ii q he L p hk
 |true=>
  have hk:Pv h (fun h1=>inK run nw xs e h1 n kill fun v e h2 n=>yG h h2 fun h3=>K v e h3 n)=some r:=hk;obtain⟨h1,hk,j⟩:=Ck hk;have c:∀{k},aO h1 k≠none->aO h k≠none:=fun{k} hk x=>hk (by rw[(j k).1,x];rfl)
  have F:cY C n h1 lim s:=by
   refine⟨⟨fun k po hp=>?_,fun k k' i v1 D G v2 e2 H a1 a2 a3 a4=>q.hr.inj k k' i v1 D G v2 e2 H (c a1) (c a2) a3 a4,fun id o A=>?_⟩,q.dom,q.wf,q.lim⟩;rw[(j k).1]at hp;cases hh:aO h k with
   |none=>rw[hh]at hp;cases hp
   |some o=>
    rw[hh]at hp;cases hp;obtain⟨pl,p1,p2⟩:=q.hr.ob k o hh;refine⟨pl,p1,?_⟩;cases o with
    |lst ty e g rows=>exact Tj p2 (iF1.trans (bP1 ((j k).2 _ _ _ _ hh)).symm)
    |_=>exact p2
   obtain⟨z1,z2,z3,z4⟩:=q.hr.zr id o A;exact⟨z1,z2,fun k v e l a b=>z3 k v e l (c a) b,z4⟩
  obtain⟨v,e',h',n',C',y,s',q1,q2,q3,q4,q5,q6,q7⟩:=Ii F he L p hk;obtain⟨h3,r1,r2⟩:=Gq q1;have d:∀{k},aO h3 k≠none->aO h' k≠none:=fun{k} hk x=>hk ((r2 k).1.2 x);refine⟨v,e',h3,n',C',y,s',r1,q2,q3,⟨⟨fun k B E=>?_,fun k k' i v1 D G v2 e2 H a1 a2 a3 a4=>q4.hr.inj k k' i v1 D G v2 e2 H (d a1) (d a2) a3 a4,fun id o A=>?_⟩,q4.dom,q4.wf,q4.lim⟩,q5,⟨q6.sk,q6.n,fun id f x=>q6.keep id f (fun⟨k,v,e,l,b1,b2⟩=>x ⟨k,v,e,l,c b1,b2⟩),fun id f ⟨k,v,e,l,b1,b2⟩=>?_,fun k o u=>?_,q6.zl,fun id f A=>?_⟩,q7⟩;obtain⟨M,b1,S,b2,b3⟩:=(r2 k).2 B E;obtain⟨pl,p1,p2⟩:=q4.hr.ob k M b1;refine⟨pl,p1,?_⟩;rcases b3 with⟨ty,e,g,rows,rfl,c1,c2,rfl⟩|⟨rfl,_⟩
  exact Tj p2 ((bP1 c2).trans (iG1 c1).symm);exact p2;obtain⟨z1,z2,z3,z4⟩:=q4.hr.zr id o A;exact⟨z1,z2,fun k v e l a b=>z3 k v e l (d a) b,z4⟩;obtain⟨k,v,e,l,N,O⟩:=q6.own id f ⟨k,v,e,l,d b1,b2⟩;exact⟨k,v,e,l,c N,O⟩;obtain⟨M,J,U⟩:=q6.kd k (fxo o) (by rw[(j k).1,u];rfl);cases hc:aO h3 k with
  |none=>rw[(r2 k).1.1 hc]at J;cases J
  |some B=>
   refine⟨B,rfl,fun hb=>?_⟩;obtain⟨T,b1,S,b2,b3⟩:=(r2 k).2 B hc;rw[J]at b1;cases b1;rw[u]at b2;cases b2;rcases b3 with⟨ty,e,g,rows,rfl,c1,c2,rfl⟩|⟨rfl,hl⟩
   rw[gB,c2]at hb;cases hb;obtain⟨V,W⟩:=U hb;refine⟨?_,W⟩;cases o with
   |lst ty e g rows=>simp[Gp]at hl
   |_=>exact V
  rcases q6.zn id f A with h1|⟨k,v,e,l,b1,b2⟩
  exact .inl h1;exact .inr ⟨k,v,e,l,c b1,b2⟩
end
end Go.P
