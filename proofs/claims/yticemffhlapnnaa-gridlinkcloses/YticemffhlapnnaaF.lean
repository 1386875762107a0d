import Derived.Test.YticemffhlapnnaaRun
import Derived.Test.YticemffhlapnnaaShort
import Derived.Test.YticemffhlapnnaaIns
import Derived.Test.YticemffhlapnnaaNest
import Derived.Test.YticemffhlapnnaaArr
import Derived.Test.YticemffhlapnnaaRow
import Derived.Test.YticemffhlapnnaaCut
import Derived.Test.YticemffhlapnnaaElem
import Derived.Test.YticemffhlapnnaaNil
import Derived.Test.YticemffhlapnnaaView
set_option linter.all false
namespace Go.Proofs.Yticemffhlapnnaa
open Ev
namespace F
def qeo (n:Nat) (c:List Int):Int×(List Bool)→Option ((Int×(List Bool))⊕((Int×(List Bool))⊕(Bool)))
  | (b,a)=>cond (decide (b<(c.length:Int))) ((get c b).bind fun x26=>cond (decide (x26<0)) (some (.inr (.inr false))) (cond (decide ((c.length:Int)≤x26)) (some (.inr (.inr false))) ((get a x26).bind fun x38=>cond x38 (some (.inr (.inr false))) ((get a x26).bind fun x47=>(chk (b+1)).bind fun z54=>some (.inl (z54,(a.set x26.toNat true))))))) (some (.inr (.inl (b,a))))

def qdc (n:Nat) (a:List Int):Option (Bool):=
  (pos (a.length:Int)).bind fun u4=>((loopN n (F.qeo n a) (0,(List.replicate (a.length:Int).toNat false))).bind fun o14=>match o14 with
    | (.inl (c,b))=>some true
    | (.inr q)=>some q)

def grid_Valid_b0 (n:Nat) (b:List Int) (c:List Int):Int→Option ((Int)⊕((Int)⊕(Bool)))
  | a=>cond (decide (a<(b.length:Int))) ((get b a).bind fun x34=>(get c a).bind fun x41=>cond (decide (x34=x41)) (some (.inr (.inr false))) ((chk (a+1)).bind fun z50=>some (.inl z50))) (some (.inr (.inl a)))

def qge (n:Nat) (a:List Int) (b:List Int):Option (Bool):=
  cond (decide ((a.length:Int)<2)) (some false) (cond (decide (40<(a.length:Int))) (some false) (cond (!(decide ((b.length:Int)=(a.length:Int)))) (some false) (((loopN n (F.grid_Valid_b0 n a b) 0).bind fun o19=>match o19 with
    | (.inl c)=>(F.qdc n a).bind fun y55=>cond y55 ((F.qdc n b).bind fun y59=>some y59) (some false)
    | (.inr q)=>some q))))

def grid_columns_b0 (n:Nat) (c:List Int):Int×(List Int)→Option ((Int×(List Int))⊕((Int×(List Int))))
  | (a,b)=>cond (decide (a<(c.length:Int))) ((get c a).bind fun x30=>(get b x30).bind fun x36=>(chk (a+1)).bind fun z43=>some (.inl (z43,(b.set x30.toNat a)))) (some (.inr (a,b)))

def qgb (n:Nat) (a:List Int):Option ((List Int)):=
  (pos (a.length:Int)).bind fun u4=>((loopN n (F.grid_columns_b0 n a) (0,(List.replicate (a.length:Int).toNat (0:Int)))).bind fun o18=>match o18 with
    | (c,b)=>some b)


def qfa (n:Nat) (a:Int) (b:List Int):Option (Int):=
  (get b a).bind fun x5=>some x5

def qel (n:Nat) (d:List Int) (e:List Int) (y18:(List Int)) (y29:(List Int)) (b:Int):(List (Int×Int))×Int→Option (((List (Int×Int))×Int)⊕(((List (Int×Int))×Int)))
  | (c,a)=>(get d b).bind fun x88=>(get e b).bind fun x95=>cond (decide (a<(max x88 x95))) ((F.qfa n a y18).bind fun y106=>(F.qfa n a y29).bind fun y110=>cond (decide ((min y106 y110)<b)) (cond (decide (b<(max y106 y110))) ((lim (c.length+([(b,a)]:List (Int×Int)).length)).bind fun u124=>(chk (a+1)).bind fun z131=>some (.inl ((c++([(b,a)]:List (Int×Int))),z131))) ((chk (a+1)).bind fun z133=>some (.inl (c,z133)))) ((chk (a+1)).bind fun z136=>some (.inl (c,z136)))) (some (.inr (c,a)))

def qem (n:Nat) (b:List Int) (c:List Int) (y18:(List Int)) (y29:(List Int)):(List (Int×Int))×Int→Option (((List (Int×Int))×Int)⊕(((List (Int×Int))×Int)))
  | (d,a)=>cond (decide (a<(b.length:Int))) ((get b a).bind fun x60=>(get c a).bind fun x67=>(chk ((min x60 x67)+1)).bind fun z74=>((loopN n (F.qel n b c y18 y29 a) (d,z74)).bind fun o77=>match o77 with
    | (e,f)=>(chk (a+1)).bind fun z140=>some (.inl (e,z140)))) (some (.inr (d,a)))

def qfy (n:Nat) (a:List Int) (b:List Int):Option ((List (Int×Int))):=
  (F.qge n a b).bind fun y9=>cond (!y9) (some ([])) ((F.qgb n a).bind fun y18=>(F.qgb n b).bind fun y29=>((loopN n (F.qem n a b y18 y29) (([]:List (Int×Int)),0)).bind fun o45=>match o45 with
    | (c,d)=>some c))

def qgl (n:Nat) (c:List Int):Int×(List Int)→Option ((Int×(List Int))⊕((Int×(List Int))))
  | (a,b)=>cond (decide (a<(c.length:Int))) ((get c a).bind fun x26=>(get b x26).bind fun x32=>(chk (a+1)).bind fun z39=>some (.inl (z39,(b.set x26.toNat a)))) (some (.inr (a,b)))

def qdw (n:Nat) (a:List Int):Option ((List Int)):=
  (pos (a.length:Int)).bind fun u4=>((loopN n (F.qgl n a) (0,(List.replicate (a.length:Int).toNat (0:Int)))).bind fun o14=>match o14 with
    | (c,b)=>some b)

def qbw (n:Nat):Int×Int×(List (Int×Int))→Option ((Int×Int×(List (Int×Int)))⊕((Int×Int×(List (Int×Int)))))
  | (b,c,a)=>cond (decide (b<c)) ((get a c).bind fun x18=>(get a b).bind fun x29=>(get a b).bind fun x40=>(get (a.set b.toNat (x18.1,x18.2)) c).bind fun x48=>(chk (b+1)).bind fun z56=>(chk (c-1)).bind fun z58=>some (.inl (z56,z58,((a.set b.toNat (x18.1,x18.2)).set c.toNat (x29.1,x29.2))))) (some (.inr (b,c,a)))

def qca (n:Nat) (b:List (Int×Int)):Option ((List (Int×Int))):=
  (chk ((b.length:Int)-1)).bind fun z3=>((loopN n (F.qbw n) (0,z3,b)).bind fun o5=>match o5 with
    | (c,d,a)=>some a)

def qcj (n:Nat) (g:List Int) (e:Int) (a:List (List (Int×Int))) (d:List (List (Int×Int))) (x65:Int×Int) (f:Int) (h:Bool) (b:Int) (c:Int):Option (((List Int)×Int×(List (List (Int×Int)))×(List (List (Int×Int))))⊕(((List Int)×Int×(List (List (Int×Int)))×(List (List (Int×Int)))))):=
  (lim (g.length+([f]:List Int).length)).bind fun u150=>(get a x65.1).bind fun x158=>(get a x65.1).bind fun x170=>(lim (x158.length+([(b,c)]:List (Int×Int)).length)).bind fun u185=>(get a x65.1).bind fun x192=>(get d x65.2).bind fun x204=>(chk (4*e)).bind fun z218=>(chk (4*e)).bind fun z220=>(chk (z220+2)).bind fun z222=>(lim (x204.length+([(z218,z222)]:List (Int×Int)).length)).bind fun u230=>(get d x65.2).bind fun x237=>(chk (e+1)).bind fun z247=>some (.inl ((g++([f]:List Int)),z247,(a.set x65.1.toNat (x158++([(b,c)]:List (Int×Int)))),(d.set x65.2.toNat (x204++([(z218,z222)]:List (Int×Int))))))

def qck (n:Nat) (y12:(List Int)) (y21:(List Int)) (a:Int) (b:List (List (Int×Int))) (d:Bool) (c:List (List (Int×Int))):Option ((Int×(List (List (Int×Int)))×(List (List (Int×Int))))⊕((Int×(List (List (Int×Int)))×(List (List (Int×Int)))))):=
  (get y21 a).bind fun x308=>(get y12 a).bind fun x315=>cond (decide (x315<x308)) ((get b a).bind fun x323=>(F.qca n x323).bind fun y337=>(chk (a+1)).bind fun z340=>some (.inl (z340,c,(b.set a.toNat y337)))) ((chk (a+1)).bind fun z343=>some (.inl (z343,c,b)))

def qbv (n:Nat) (d:List Int) (e:List Int) (y12:(List Int)) (y21:(List Int)):Int×(List (List (Int×Int)))×(List (List (Int×Int)))→Option ((Int×(List (List (Int×Int)))×(List (List (Int×Int))))⊕((Int×(List (List (Int×Int)))×(List (List (Int×Int))))))
  | (a,b,c)=>cond (decide (a<(d.length:Int))) ((get d a).bind fun x269=>(get e a).bind fun x276=>cond (decide (x276<x269)) ((get b a).bind fun x285=>(F.qca n x285).bind fun y299=>F.qck n y12 y21 a c (decide (x276<x269)) (b.set a.toNat y299)) (F.qck n y12 y21 a c (decide (x276<x269)) b)) (some (.inr (a,b,c)))

def qce (n:Nat) (f:List Int) (g:List Int) (b:List (Int×Int)) (y12:(List Int)) (y21:(List Int)):(List Int)×Int×(List (List (Int×Int)))×(List (List (Int×Int)))→Option (((List Int)×Int×(List (List (Int×Int)))×(List (List (Int×Int))))⊕(((List Int)×Int×(List (List (Int×Int)))×(List (List (Int×Int))))))
  | (e,a,c,d)=>cond (decide (a<(b.length:Int))) ((get b a).bind fun x65=>(get f x65.1).bind fun x86=>(get g x65.1).bind fun x93=>(get y21 x65.2).bind fun x100=>(get y12 x65.2).bind fun x107=>(chk (4*a)).bind fun z116=>(chk (z116+1)).bind fun z118=>(chk (4*a)).bind fun z120=>(chk (z120+3)).bind fun z122=>cond (!((decide (x86<x93)) == (decide (x100<x107)))) ((chk (4*a)).bind fun z132=>(chk (z132+3)).bind fun z134=>(chk (4*a)).bind fun z136=>(chk (z136+1)).bind fun z138=>F.qcj n e a c d x65 1 (!((decide (x86<x93)) == (decide (x100<x107)))) z134 z138) (F.qcj n e a c d x65 (-1) (!((decide (x86<x93)) == (decide (x100<x107)))) z118 z122)) (some (.inr (e,a,c,d)))

def qff (n:Nat) (a:List Int) (c:List Int) (b:List (Int×Int)):Option ((List Int)×(List (List (Int×Int)))×(List (List (Int×Int)))):=
  (F.qdw n a).bind fun y12=>(F.qdw n c).bind fun y21=>(pos (a.length:Int)).bind fun u34=>(pos (a.length:Int)).bind fun u42=>((loopN n (F.qce n a c b y12 y21) (([]:List Int),0,(List.replicate (a.length:Int).toNat ([]:List (Int×Int))),(List.replicate (a.length:Int).toNat ([]:List (Int×Int))))).bind fun o53=>match o53 with
    | (h,j,d,e)=>((loopN n (F.qbv n a c y12 y21) (0,d,e)).bind fun o253=>match o253 with
    | (i,f,g)=>some (h,f,g)))


def qby (n:Nat) (a:Int):Option ((List (Int×Int))):=
  cond (decide (a<0)) (none) ((chk (0-0)).bind fun z7=>(chk (a-z7)).bind fun z9=>cond (decide (0<z9)) ((posz z9).bind fun u14=>(cut 0 0 (List.replicate z9.toNat ((0:Int),(0:Int))).length).bind fun u22=>some ((List.replicate z9.toNat ((0:Int),(0:Int))).take (0:Int).toNat)) (some ([])))

def qav (n:Nat) (b:List (List (Int×Int))):(List (Int×Int))×Int→Option (((List (Int×Int))×Int)⊕(((List (Int×Int))×Int)))
  | (c,a)=>cond (decide (a<(b.length:Int))) ((get b a).bind fun x63=>(lim (c.length+x63.length)).bind fun u74=>(chk (a+1)).bind fun z81=>some (.inl ((c++x63),z81))) (some (.inr (c,a)))

def qaz (n:Nat) (b:List (List (Int×Int))):Int×Int→Option ((Int×Int)⊕((Int×Int)))
  | (c,a)=>cond (decide (a<(b.length:Int))) ((get b a).bind fun x18=>(chk (c+(x18.length:Int))).bind fun z30=>cond (decide (z30<0)) (none) ((chk (a+1)).bind fun z35=>some (.inl (z30,z35)))) (some (.inr (c,a)))

def qcn (n:Nat) (a:List (List (Int×Int))):Option ((List (Int×Int))):=
  ((loopN n (F.qaz n a) (0,0)).bind fun o6=>match o6 with
    | (b,d)=>(F.qby n b).bind fun y40=>((loopN n (F.qav n a) (y40,0)).bind fun o51=>match o51 with
    | (c,e)=>some c))

def qbh (n:Nat) (d:List Int) (e:List (List (Int×Int))) (f:List (List (Int×Int))) (g:List Int):(List (Int×Int))×(List Bool)×Int→Option (((List (Int×Int))×(List Bool)×Int)⊕(((List (Int×Int))×(List Bool)×Int)⊕(Int×Int×Bool×(List Bool)×(List (Int×Int))×Int)))
  | (c,b,a)=>cond (decide ((c.length:Int)=0)) ((get b a).bind fun x32=>cond x32 (some (.inr (.inr (0,0,false,b,c,a)))) ((get b a).bind fun x42=>(get d a).bind fun x51=>(get e a).bind fun x60=>(get f x51).bind fun x72=>(F.qcn n ([x60,x72]:List (List (Int×Int)))).bind fun y90=>(get g x51).bind fun x101=>some (.inl (y90,(b.set a.toNat true),x101)))) (some (.inr (.inl (c,b,a))))

def qcb (n:Nat) (c:List (Int×Int)) (d:List Bool) (e:Int) (k:List Int) (f:List Int) (g:List (List (Int×Int))) (h:List (List (Int×Int))) (i:List Int):Option (Int×Int×Bool×(List Bool)×(List (Int×Int))×Int):=
  ((loopN n (F.qbh n f g h i) (c,d,e)).bind fun o20=>match o20 with
    | (.inl (a,j,b))=>(get a 0).bind fun x111=>(cut 1 (a.length:Int) a.length).bind fun u126=>some (x111.1,x111.2,true,j,((a.drop (1:Int).toNat).take ((a.length:Int).toNat-(1:Int).toNat)),b)
    | (.inr q)=>some q)


def qfi (n:Nat) (b:Int) (a:List (Int×Int)):Option (Int):=
  (chk (b+1)).bind fun z5=>(nz (a.length:Int)).bind fun u7=>some (Int.tmod z5 (a.length:Int))

def qdv (n:Nat) (a:List (Int×Int)):Int×(List Int)→Option ((Int×(List Int))⊕((Int×(List Int))))
  | (b,c)=>cond (decide (b<(a.length:Int))) ((get a b).bind fun x31=>(F.qfi n b a).bind fun y48=>(get a y48).bind fun x52=>(get c x31.2).bind fun x66=>(get (c.set x31.2.toNat x52.1) x52.1).bind fun x74=>(chk (b+1)).bind fun z81=>some (.inl (z81,((c.set x31.2.toNat x52.1).set x52.1.toNat x31.2)))) (some (.inr (b,c)))

def qfh (n:Nat) (c:List Int) (b:List (Int×Int)) (a:Int):Option ((List Int)×Int):=
  ((loopN n (F.qdv n b) (0,c)).bind fun o19=>match o19 with
    | (e,d)=>some (d,a))

def qfm (n:Nat) (d:List Int) (b:List Int) (c:Int) (a:List (Int×Int)):Option ((List Int)×Int):=
  cond (decide ((a.length:Int)=0)) ((chk (c+1)).bind fun z12=>F.qfh n b a z12) (F.qfh n b a c)

def qbo (n:Nat) (i:List Int) (j:List Int) (y39:(List Int)×(List (List (Int×Int)))×(List (List (Int×Int)))) (g:List Int):(List (Int×Int))×Bool×(List Bool)×Int×(List (Int×Int))×Int×Int→Option (((List (Int×Int))×Bool×(List Bool)×Int×(List (Int×Int))×Int×Int)⊕(((List (Int×Int))×Bool×(List Bool)×Int×(List (Int×Int))×Int×Int)))
  | (f,h,e,c,d,a,b)=>cond h ((lim (f.length+([(a,b)]:List (Int×Int)).length)).bind fun u188=>(F.qcb n d e c i j y39.2.1 y39.2.2 g).bind fun y201=>some (.inl ((f++([(a,b)]:List (Int×Int))),y201.2.2.1,y201.2.2.2.1,y201.2.2.2.2.2,y201.2.2.2.2.1,y201.1,y201.2.1))) (some (.inr (f,h,e,c,d,a,b)))

def qcy (n:Nat) (f:List Int) (g:List Int) (y39:(List Int)×(List (List (Int×Int)))×(List (List (Int×Int)))):Int×(List Int)×Int×(List Int)×(List Bool)→Option ((Int×(List Int)×Int×(List Int)×(List Bool))⊕((Int×(List Int)×Int×(List Int)×(List Bool))))
  | (b,e,d,a,c)=>cond (decide (b<(f.length:Int))) ((get c b).bind fun x128=>cond x128 ((chk (b+1)).bind fun z135=>some (.inl (z135,e,d,a,c))) ((F.qcb n ([]) c b f g y39.2.1 y39.2.2 a).bind fun y151=>((loopN n (F.qbo n f g y39 a) (([]:List (Int×Int)),y151.2.2.1,y151.2.2.2.1,y151.2.2.2.2.2,y151.2.2.2.2.1,y151.1,y151.2.1)).bind fun o171=>match o171 with
    | (i,o,h,j,k,l,m)=>(F.qfm n y39.1 e d i).bind fun y217=>(chk (b+1)).bind fun z221=>some (.inl (z221,y217.1,y217.2,a,h))))) (some (.inr (b,e,d,a,c)))

def qex (n:Nat) (a:List Int) (b:List Int):Option ((List Int)×(List Int)×Int×Int):=
  (F.qge n a b).bind fun y12=>cond (!y12) (some ([],[],0,1)) ((F.qfy n a b).bind fun y21=>cond (decide (64<(y21.length:Int))) (some ([],[],0,5)) ((F.qff n a b y21).bind fun y39=>(chk (4*(y21.length:Int))).bind fun z70=>(pos z70).bind fun u72=>(F.qdw n a).bind fun y85=>(pos (a.length:Int)).bind fun u100=>((loopN n (F.qcy n a b y39) (0,(List.replicate z70.toNat (0:Int)),0,y85,(List.replicate (a.length:Int).toNat false))).bind fun o114=>match o114 with
    | (g,d,c,e,f)=>some (y39.1,d,c,0))))

def qfx (n:Nat) (b:Int) (c:List Int):Int→Option ((Int)⊕((Int)⊕(Bool)))
  | a=>cond (decide (a<(c.length:Int))) ((get c a).bind fun x29=>cond (decide (x29=0)) (some (.inr (.inr false))) ((chk (-b)).bind fun z38=>cond (decide (x29≤z38)) (some (.inr (.inr false))) (cond (decide (b≤x29)) (some (.inr (.inr false))) ((chk (a+1)).bind fun z44=>some (.inl z44))))) (some (.inr (.inl a)))

def qfs (n:Nat) (a:Int) (b:List Int):Option (Bool):=
  cond (decide (a<1)) (some false) (cond (decide (10<a)) (some false) (cond (decide (200<(b.length:Int))) (some false) (((loopN n (F.qfx n a b) 0).bind fun o17=>match o17 with
    | (.inl c)=>some true
    | (.inr q)=>some q))))

def qcf (n:Nat) (b:List Int) (c:Int):Int→Option ((Int)⊕((Int)⊕(Int)))
  | a=>cond (decide (a<(b.length:Int))) ((get b a).bind fun x18=>cond (decide (c=x18)) (some (.inr (.inr a))) ((chk (a+1)).bind fun z26=>some (.inl z26))) (some (.inr (.inl a)))

def qee (n:Nat) (b:List Int) (a:Int):Option (Int):=
  ((loopN n (F.qcf n b a) 0).bind fun o5=>match o5 with
    | (.inl c)=>some (-1)
    | (.inr q)=>some q)

def qcm (n:Nat) (a:List Int) (b:Int) (c:List Int):Option (List Int):=insF a b c

def qcw (n:Nat) (f:Int) (d:List (Int×Int)) (g:List Int) (e:Int) (a:List Int) (b:Int) (c:Int) (h:Int) (i:Bool):Option (((List (Int×Int))×(List Int)×Int×(List Int))⊕(((List (Int×Int))×(List Int)×Int×(List Int)))):=
  (get a b).bind fun x136=>(chk (f+e)).bind fun z142=>(get d x136).bind fun x144=>(get a c).bind fun x157=>(F.qee n g x157).bind fun y163=>(chk (y163+h)).bind fun z167=>(F.qcm n g z167 ([(d.length:Int)]:List Int)).bind fun y175=>(get a c).bind fun x186=>(get a b).bind fun x192=>(get (a.set b.toNat x186) c).bind fun x199=>(chk (f+e)).bind fun z207=>(lim ((d.set x136.toNat (x144.1,z142)).length+([(z207,0)]:List (Int×Int)).length)).bind fun u215=>(chk (e+1)).bind fun z222=>some (.inl (((d.set x136.toNat (x144.1,z142))++([(z207,0)]:List (Int×Int))),y175,z222,((a.set b.toNat x186).set c.toNat (d.length:Int))))

def qbj (n:Nat) (d:Int) (z26:Int):Int×(List Int)×(List Int)→Option ((Int×(List Int)×(List Int))⊕((Int×(List Int)×(List Int))))
  | (c,a,b)=>cond (decide (c<d)) ((chk (d-1)).bind fun z383=>(chk (z383-c)).bind fun z385=>(chk (z26-1)).bind fun z388=>(chk (z388-z385)).bind fun z390=>(lim (a.length+([z390]:List Int).length)).bind fun u398=>(lim (b.length+([z385]:List Int).length)).bind fun u413=>(chk (c+1)).bind fun z421=>some (.inl (z421,(a++([z390]:List Int)),(b++([z385]:List Int))))) (some (.inr (c,a,b)))

def qbi (n:Nat) (e:List Int) (d:List (Int×Int)):Int×(List Int)×(List Int)→Option ((Int×(List Int)×(List Int))⊕((Int×(List Int)×(List Int))))
  | (c,a,b)=>cond (decide (c<(e.length:Int))) ((get e c).bind fun x302=>(get d x302).bind fun x311=>(lim (a.length+([x311.1]:List Int).length)).bind fun u328=>(get d x302).bind fun x339=>(lim (b.length+([x339.2]:List Int).length)).bind fun u356=>(chk (c+1)).bind fun z364=>some (.inl (z364,(a++([x311.1]:List Int)),(b++([x339.2]:List Int))))) (some (.inr (c,a,b)))

def qdl (n:Nat) (z26:Int) (d:List Int) (c:List Int):Int×(List (Int×Int))→Option ((Int×(List (Int×Int)))⊕((Int×(List (Int×Int)))))
  | (a,b)=>cond (decide (a<(d.length:Int))) ((get c a).bind fun x240=>(chk (z26-1)).bind fun z246=>(chk (z246-a)).bind fun z248=>(get b x240).bind fun x250=>(chk (a+1)).bind fun z261=>some (.inl (z261,(b.set x240.toNat (x250.1,z248))))) (some (.inr (a,b)))

def qcd (n:Nat) (e:Int) (f:List Int):(List (Int×Int))×(List Int)×Int×(List Int)→Option (((List (Int×Int))×(List Int)×Int×(List Int))⊕(((List (Int×Int))×(List Int)×Int×(List Int))))
  | (c,d,a,b)=>cond (decide (a<(f.length:Int))) ((get f a).bind fun x115=>(chk (-x115)).bind fun z122=>(chk ((max x115 z122)-1)).bind fun z126=>cond (decide (x115<0)) ((chk ((max x115 z122)-1)).bind fun z131=>F.qcw n e c d a b z131 (max x115 z122) 1 (decide (x115<0))) (F.qcw n e c d a b (max x115 z122) z126 0 (decide (x115<0)))) (some (.inr (c,d,a,b)))

def qdj (n:Nat) (e:Int):(List (Int×Int))×(List Int)×(List Int)×Int→Option (((List (Int×Int))×(List Int)×(List Int)×Int)⊕(((List (Int×Int))×(List Int)×(List Int)×Int)))
  | (b,c,d,a)=>cond (decide (a<e)) ((lim (b.length+([(a,0)]:List (Int×Int)).length)).bind fun u62=>(lim (c.length+([a]:List Int).length)).bind fun u76=>(lim (d.length+([a]:List Int).length)).bind fun u90=>(chk (a+1)).bind fun z97=>some (.inl ((b++([(a,0)]:List (Int×Int))),(c++([a]:List Int)),(d++([a]:List Int)),z97))) (some (.inr (b,c,d,a)))

def qec (n:Nat) (a:Int) (b:List Int):Option ((List Int)×(List Int)×Int):=
  (F.qfs n a b).bind fun y11=>cond (!y11) (some ([],[],1)) ((chk (2*a)).bind fun z24=>(chk (z24+(b.length:Int))).bind fun z26=>cond (decide (40<z26)) (some ([],[],5)) (((loopN n (F.qdj n a) (([]:List (Int×Int)),([]:List Int),([]:List Int),0)).bind fun o43=>match o43 with
    | (j,k,i,r)=>((loopN n (F.qcd n a b) (j,k,0,i)).bind fun o103=>match o103 with
    | (l,m,s,g)=>((loopN n (F.qdl n z26 i g) (0,l)).bind fun o228=>match o228 with
    | (o,h)=>(pos z26).bind fun u268=>(pos z26).bind fun u276=>((loopN n (F.qbi n m h) (0,([]:List Int),([]:List Int))).bind fun o290=>match o290 with
    | (p,c,d)=>((loopN n (F.qbj n a z26) (0,c,d)).bind fun o370=>match o370 with
    | (q,e,f)=>some (e,f,0))))))))

def ref01_Ints_b0 (n:Nat) (b:List Int) (c:List Int):Int→Option ((Int)⊕((Int)⊕(Bool)))
  | a=>cond (decide (a<(b.length:Int))) ((get b a).bind fun x24=>(get c a).bind fun x31=>cond (!(decide (x24=x31))) (some (.inr (.inr false))) ((chk (a+1)).bind fun z40=>some (.inl z40))) (some (.inr (.inl a)))

def ref01_Ints (n:Nat) (a:List Int) (b:List Int):Option (Bool):=
  cond (!(decide ((a.length:Int)=(b.length:Int)))) (some false) (((loopN n (F.ref01_Ints_b0 n a b) 0).bind fun o10=>match o10 with
    | (.inl c)=>some true
    | (.inr q)=>some q))


def law44_awake (n:Nat):Option (Bool):=
  (F.qex n ([0,1,2,3,4]:List Int) ([2,3,4,0,1]:List Int)).bind fun y15=>(F.qec n 2 ([1]:List Int)).bind fun y44=>cond (decide (y15.2.2.2=0)) (cond (decide ((y15.1.length:Int)=3)) (cond (decide (y15.2.2.1=0)) (cond (decide (y44.2.2=0)) ((F.ref01_Ints n y44.1 ([2,0,1,3,4]:List Int)).bind fun y75=>cond y75 ((F.ref01_Ints n y44.2.1 ([4,3,2,1,0]:List Int)).bind fun y85=>some y85) (some false)) (some false)) (some false)) (some false)) (some false)


def qez (n:Nat) (b:List Int) (c:List Int) (d:Int) (a:Int):Option (Bool):=
  (nz 4).bind fun u9=>cond (decide ((Int.tmod a 4)=1)) ((nz 4).bind fun u14=>(chk (Int.tdiv a 4)).bind fun z16=>(get b z16).bind fun x18=>some (decide (x18=1))) (cond (decide ((Int.tmod a 4)=2)) (some true) (cond (decide ((Int.tmod a 4)=3)) ((nz 4).bind fun u31=>(chk (Int.tdiv a 4)).bind fun z33=>(get b z33).bind fun x35=>some (decide (x35=(-1)))) (some false)))

def qev (n:Nat) (d:List Int) (e:Int) (x96:Int):(List Int)×Int×(List Int)→Option (((List Int)×Int×(List Int))⊕(((List Int)×Int×(List Int))))
  | (c,b,a)=>cond (decide (b<4)) ((chk (4*x96)).bind fun z125=>(chk (z125+b)).bind fun z127=>(get d z127).bind fun x129=>(nz 4).bind fun u135=>(chk (Int.tdiv x129 4)).bind fun z137=>(get a z137).bind fun x141=>cond (decide (x141<0)) ((get a z137).bind fun x149=>(lim (c.length+([z137]:List Int).length)).bind fun u162=>(chk (b+1)).bind fun z169=>some (.inl ((c++([z137]:List Int)),z169,(a.set z137.toNat e)))) ((chk (b+1)).bind fun z171=>some (.inl (c,z171,a)))) (some (.inr (c,b,a)))

def qdx (n:Nat) (d:List Int) (e:Int):(List Int)×(List Int)→Option (((List Int)×(List Int))⊕(((List Int)×(List Int))))
  | (a,b)=>cond (decide (0<(a.length:Int))) ((get a 0).bind fun x96=>(cut 1 (a.length:Int) a.length).bind fun u103=>((loopN n (F.qev n d e x96) ((a.drop (1:Int).toNat),0,b)).bind fun o112=>match o112 with
    | (f,g,c)=>some (.inl (f,c)))) (some (.inr (a,b)))

def qds (n:Nat) (e:List Int) (f:List Int):Int×Int×(List Int)→Option ((Int×Int×(List Int))⊕((Int×Int×(List Int))))
  | (c,a,b)=>cond (decide (a<(((List.replicate (e.length:Int).toNat (0:Int))).length:Int))) ((get b a).bind fun x59=>cond (decide (0≤x59)) ((chk (a+1)).bind fun z66=>some (.inl (c,z66,b))) ((get b a).bind fun x69=>((loopN n (F.qdx n f c) (([a]:List Int),(b.set a.toNat c))).bind fun o85=>match o85 with
    | (g,d)=>(chk (c+1)).bind fun z177=>(chk (a+1)).bind fun z179=>some (.inl (z177,z179,d))))) (some (.inr (c,a,b)))

def qeu (n:Nat) (c:List Int):Int×(List Int)→Option ((Int×(List Int))⊕((Int×(List Int))))
  | (a,b)=>cond (decide (a<(((List.replicate (c.length:Int).toNat (0:Int))).length:Int))) ((get b a).bind fun x31=>(chk (a+1)).bind fun z38=>some (.inl (z38,(b.set a.toNat (-1))))) (some (.inr (a,b)))

def qfl (n:Nat) (a:List Int) (d:List Int) (f:Int):Option ((List Int)×Int):=
  (pos (a.length:Int)).bind fun u8=>((loopN n (F.qeu n a) (0,(List.replicate (a.length:Int).toNat (0:Int)))).bind fun o19=>match o19 with
    | (g,b)=>((loopN n (F.qds n a d) (0,0,b)).bind fun o45=>match o45 with
    | (e,h,c)=>some (c,e)))


def qgn (n:Nat) (a:Int) (b:Int):Option (Int):=
  cond (decide (a<0)) (some (-1)) ((nz 4).bind fun u7=>(chk (a-(Int.tmod a 4))).bind fun z9=>(nz 4).bind fun u11=>(nz 4).bind fun u13=>(chk ((Int.tmod a 4)+(Int.tmod b 4))).bind fun z15=>(chk (z15+4)).bind fun z17=>(nz 4).bind fun u19=>(chk (z9+(Int.tmod z17 4))).bind fun z21=>some z21)

def qdg (n:Nat) (c:List Int):Int×(List Bool)→Option ((Int×(List Bool))⊕((Int×(List Bool))))
  | (a,b)=>(get b a).bind fun x138=>cond (!x138) ((get b a).bind fun x146=>(get c a).bind fun x153=>(F.qgn n x153 (-1)).bind fun y159=>some (.inl (y159,(b.set a.toNat true)))) (some (.inr (a,b)))

def qde (n:Nat) (y8:(List Int)×Int) (b:List Int):Int→Option ((Int)⊕((Int)⊕(Bool)))
  | a=>cond (decide (a<(((List.replicate y8.2.toNat (0:Int))).length:Int))) ((get b a).bind fun x183=>cond (!(decide (x183=2))) (some (.inr (.inr false))) ((chk (a+1)).bind fun z192=>some (.inl z192))) (some (.inr (.inl a)))

def qdh (n:Nat) (d:List Int) (y8:(List Int)×Int):Int×(List Int)×(List Bool)→Option ((Int×(List Int)×(List Bool))⊕((Int×(List Int)×(List Bool))))
  | (a,b,c)=>cond (decide (a<(d.length:Int))) ((get c a).bind fun x92=>cond x92 ((chk (a+1)).bind fun z99=>some (.inl (z99,b,c))) ((nz 4).bind fun u102=>(chk (Int.tdiv a 4)).bind fun z104=>(get y8.1 z104).bind fun x106=>(get b x106).bind fun x112=>(chk (x112+1)).bind fun z118=>(get b x106).bind fun x120=>((loopN n (F.qdg n d) (a,c)).bind fun o129=>match o129 with
    | (f,e)=>(chk (a+1)).bind fun z165=>some (.inl (z165,(b.set x106.toNat z118),e))))) (some (.inr (a,b,c)))

def qdf (n:Nat) (y8:(List Int)×Int):Int×(List Int)→Option ((Int×(List Int))⊕((Int×(List Int))))
  | (b,a)=>cond (decide (b<(y8.1.length:Int))) ((get y8.1 b).bind fun x42=>(get a x42).bind fun x48=>(chk (x48-1)).bind fun z54=>(get a x42).bind fun x56=>(chk (b+1)).bind fun z63=>some (.inl (z63,(a.set x42.toNat z54)))) (some (.inr (b,a)))

def qdk (n:Nat) (d:List Int) (a:List Int) (e:Int):Option (Bool):=
  (F.qfl n d a e).bind fun y8=>(pos y8.2).bind fun u19=>((loopN n (F.qdf n y8) (0,(List.replicate y8.2.toNat (0:Int)))).bind fun o30=>match o30 with
    | (g,b)=>(pos (a.length:Int)).bind fun u68=>((loopN n (F.qdh n a y8) (0,b,(List.replicate (a.length:Int).toNat false))).bind fun o78=>match o78 with
    | (h,c,f)=>((loopN n (F.qde n y8 c) 0).bind fun o171=>match o171 with
    | (.inl i)=>some true
    | (.inr q)=>some q)))

def qdq (n:Nat) (c:List Int) (b:List Int) (d:Int):Int→Option ((Int)⊕((Int)⊕(Bool)))
  | a=>cond (decide (a<(b.length:Int))) ((get b a).bind fun x65=>cond (decide (x65<0)) (some (.inr (.inr false))) ((chk (4*(c.length:Int))).bind fun z75=>cond (decide (z75≤x65)) (some (.inr (.inr false))) (cond (decide (x65=a)) (some (.inr (.inr false))) ((get b x65).bind fun x81=>cond (!(decide (x81=a))) (some (.inr (.inr false))) ((F.qez n c b d a).bind fun y93=>(F.qez n c b d x65).bind fun y96=>cond (y93 == y96) (some (.inr (.inr false))) ((chk (a+1)).bind fun z101=>some (.inl z101))))))) (some (.inr (.inl a)))

def qdd (n:Nat) (b:List Int):Int→Option ((Int)⊕((Int)⊕(Bool)))
  | a=>cond (decide (a<(b.length:Int))) ((get b a).bind fun x35=>cond (!(decide (x35=1))) (cond (!(decide (x35=(-1)))) (some (.inr (.inr false))) ((chk (a+1)).bind fun z45=>some (.inl z45))) ((chk (a+1)).bind fun z47=>some (.inl z47))) (some (.inr (.inl a)))

def qen (n:Nat) (a:List Int) (c:List Int) (b:Int):Option (Bool):=
  cond (decide (64<(a.length:Int))) (some false) ((chk (4*(a.length:Int))).bind fun z12=>cond (!(decide ((c.length:Int)=z12))) (some false) (cond (decide (b<0)) (some false) (cond (decide (64<b)) (some false) (((loopN n (F.qdd n a) 0).bind fun o23=>match o23 with
    | (.inl d)=>((loopN n (F.qdq n a c b) 0).bind fun o53=>match o53 with
    | (.inl e)=>(F.qdk n a c b).bind fun y106=>some y106
    | (.inr q)=>some q)
    | (.inr q)=>some q)))))


def qew (n:Nat) (y16:(List Int)×Int):Int×(List (List Int))→Option ((Int×(List (List Int)))⊕((Int×(List (List Int)))))
  | (a,b)=>cond (decide (a<(y16.1.length:Int))) ((get y16.1 a).bind fun x50=>(get b x50).bind fun x56=>(lim (x56.length+([a]:List Int).length)).bind fun u76=>(get b x50).bind fun x83=>(chk (a+1)).bind fun z93=>some (.inl (z93,(b.set x50.toNat (x56++([a]:List Int)))))) (some (.inr (a,b)))

def qgh (n:Nat) (a:List Int) (b:List Int) (c:Int):Option ((List (List Int))):=
  (F.qen n a b c).bind fun y9=>cond (!y9) (some ([])) ((F.qfl n a b c).bind fun y16=>(pos y16.2).bind fun u28=>((loopN n (F.qew n y16) (0,(List.replicate y16.2.toNat ([]:List Int)))).bind fun o38=>match o38 with
    | (e,d)=>some d))


def cmp_isNaN_int (n:Nat) (a:Int):Option (Bool):=
  some (!(decide (a=a)))


def cmp_Compare_int (n:Nat) (a:Int) (b:Int):Option (Int):=
  (F.cmp_isNaN_int n a).bind fun y3=>(F.cmp_isNaN_int n b).bind fun y7=>cond y3 (cond y7 (some 0) (some (-1))) (cond y7 (some 1) (cond (decide (a<b)) (some (-1)) (cond (decide (b<a)) (some 1) (some 0))))

def qcv (n:Nat) (b:List Int) (c:List Int):Int→Option ((Int)⊕((Int)⊕(Int)))
  | a=>cond (decide (a<(b.length:Int))) ((get b a).bind fun x18=>cond (decide ((c.length:Int)≤a)) (some (.inr (.inr 1))) ((get c a).bind fun x30=>(F.cmp_Compare_int n x18 x30).bind fun y37=>cond (!(decide (y37=0))) (some (.inr (.inr y37))) ((chk (a+1)).bind fun z45=>some (.inl z45)))) (some (.inr (.inl a)))

def qci (n:Nat) (a:List Int) (b:List Int):Option (Int):=
  ((loopN n (F.qcv n a b) 0).bind fun o6=>match o6 with
    | (.inl c)=>cond (decide ((a.length:Int)<(b.length:Int))) (some (-1)) (some 0)
    | (.inr q)=>some q)

def qfb (n:Nat) (b:List Int) (c:Int) (x126:Int) (d:List Int) (e:Bool) (a:List Int):Option (((List Int)×(List Int)×Int×(List Int))⊕(((List Int)×(List Int)×Int×(List Int)))):=
  (nz 4).bind fun u178=>(chk (Int.tdiv x126 4)).bind fun z180=>(get a z180).bind fun x182=>(chk (4*x182)).bind fun z188=>(nz 4).bind fun u190=>(chk (z188+(Int.tmod x126 4))).bind fun z192=>(lim (b.length+([z192]:List Int).length)).bind fun u200=>(chk (c+1)).bind fun z207=>some (.inl (d,(b++([z192]:List Int)),z207,a))

def qcz (n:Nat) (e:List Int) (x80:Int):(List Int)×(List Int)×Int×(List Int)→Option (((List Int)×(List Int)×Int×(List Int))⊕(((List Int)×(List Int)×Int×(List Int))))
  | (b,d,c,a)=>cond (decide (c<4)) ((chk (4*x80)).bind fun z122=>(chk (z122+c)).bind fun z124=>(get e z124).bind fun x126=>(nz 4).bind fun u135=>(chk (Int.tdiv x126 4)).bind fun z137=>(get a z137).bind fun x139=>cond (decide (x139<0)) ((nz 4).bind fun u147=>(chk (Int.tdiv x126 4)).bind fun z149=>(get a z149).bind fun x151=>(nz 4).bind fun u159=>(chk (Int.tdiv x126 4)).bind fun z161=>(lim (b.length+([z161]:List Int).length)).bind fun u169=>F.qfb n d c x126 (b++([z161]:List Int)) (decide (x139<0)) (a.set z149.toNat (b.length:Int))) (F.qfb n d c x126 b (decide (x139<0)) a)) (some (.inr (b,d,c,a)))

def qfc (n:Nat) (j:List Int) (k:List Int) (f:List Int):(List Int)×(List Int)×Int×Int×(List Int)→Option (((List Int)×(List Int)×Int×Int×(List Int))⊕(((List Int)×(List Int)×Int×Int×(List Int))⊕((List Int)×(List Int)×Int)))
  | (c,e,d,a,g)=>cond (decide (a<(c.length:Int))) ((get c a).bind fun x80=>(get j x80).bind fun x87=>(lim (e.length+([x87]:List Int).length)).bind fun u99=>((loopN n (F.qcz n k x80) (c,(e++([x87]:List Int)),0,g)).bind fun o109=>match o109 with
    | (i,b,l,h)=>cond (decide (d=0)) ((chk (5*a)).bind fun z216=>(cut z216 (b.length:Int) b.length).bind fun u218=>(chk (5*a)).bind fun z227=>(chk (5*a)).bind fun z229=>(chk (z229+5)).bind fun z231=>(cut z227 z231 f.length).bind fun u233=>(F.qci n ((b.drop z216.toNat).take ((b.length:Int).toNat-z216.toNat)) ((f.drop z227.toNat).take (z231.toNat-z227.toNat))).bind fun y242=>cond (decide (0<y242)) (some (.inr (.inr ([],[],1)))) ((chk (a+1)).bind fun z252=>some (.inl (i,b,y242,z252,h)))) (cond (decide (0<d)) (some (.inr (.inr ([],[],1)))) ((chk (a+1)).bind fun z259=>some (.inl (i,b,d,z259,h)))))) (some (.inr (.inl (c,e,d,a,g))))

def qdo (n:Nat) (d:List Int) (e:List Int) (a:Int) (b:List Int) (c:List Int) (f:Int):Option ((List Int)×(List Int)×Int):=
  ((loopN n (F.qfc n d e b) (([a]:List Int),([]:List Int),f,0,(c.set a.toNat 0))).bind fun o68=>match o68 with
    | (.inl (g,h,i,k,j))=>some (h,g,i)
    | (.inr q)=>some q)

def qei (n:Nat) (c:List Int):Int×(List Int)→Option ((Int×(List Int))⊕((Int×(List Int))))
  | (a,b)=>cond (decide (a<(((List.replicate (c.length:Int).toNat (0:Int))).length:Int))) ((get b a).bind fun x32=>(chk (a+1)).bind fun z39=>some (.inl (z39,(b.set a.toNat (-1))))) (some (.inr (a,b)))

def qgo (n:Nat) (a:List Int) (e:List Int) (f:Int) (b:Int) (c:List Int):Option ((List Int)×(List Int)×Int):=
  (pos (a.length:Int)).bind fun u9=>((loopN n (F.qei n a) (0,(List.replicate (a.length:Int).toNat (0:Int)))).bind fun o20=>match o20 with
    | (g,d)=>(get d b).bind fun x51=>cond (c.isEmpty) (F.qdo n a e b c d (-1)) (F.qdo n a e b c d 0))


def qfn (n:Nat) (c:List Int) (a:List Int) (e:Int) (d:List Int) (b:List Int) (f:Int):Option (Int):=
  cond (!(decide ((a.length:Int)=(b.length:Int)))) ((chk ((a.length:Int)-(b.length:Int))).bind fun z17=>some z17) ((F.qci n c d).bind fun y20=>some y20)

def qat (n:Nat) (c:Int):Int×(List ((List Int)×((List Int)×Int)))→Option ((Int×(List ((List Int)×((List Int)×Int))))⊕((Int×(List ((List Int)×((List Int)×Int))))))
  | (a,b)=>cond (decide (c<a)) ((get b a).bind fun x29=>(chk (a-1)).bind fun z54=>(get b z54).bind fun x56=>(F.qfn n x29.1 x29.2.1 x29.2.2 x56.1 x56.2.1 x56.2.2).bind fun y81=>cond (decide (y81<0)) ((chk (a-1)).bind fun z90=>(chk (a-1)).bind fun z92=>(get b z92).bind fun x94=>(get b a).bind fun x119=>(get b a).bind fun x144=>(get (b.set a.toNat (x94.1,(x94.2.1,x94.2.2))) z90).bind fun x152=>(chk (a-1)).bind fun z159=>some (.inl (z159,((b.set a.toNat (x94.1,(x94.2.1,x94.2.2))).set z90.toNat (x119.1,(x119.2.1,x119.2.2)))))) (some (.inr (a,b)))) (some (.inr (a,b)))

def qax (n:Nat) (d:Int) (e:Int):Int×(List ((List Int)×((List Int)×Int)))→Option ((Int×(List ((List Int)×((List Int)×Int))))⊕((Int×(List ((List Int)×((List Int)×Int))))))
  | (a,b)=>cond (decide (a<e)) (((loopN n (F.qat n d) (a,b)).bind fun o17=>match o17 with
    | (f,c)=>(chk (a+1)).bind fun z163=>some (.inl (z163,c)))) (some (.inr (a,b)))

def qau (n:Nat) (a:List ((List Int)×((List Int)×Int))) (c:Int) (d:Int):Option ((List ((List Int)×((List Int)×Int)))):=
  (chk (c+1)).bind fun z3=>((loopN n (F.qax n c d) (z3,a)).bind fun o5=>match o5 with
    | (e,b)=>some b)

def qcl (n:Nat) (a:Int) (z40:Int):Unit→Option ((Unit)⊕((Unit)))
  | ()=>cond (decide (z40≤a)) (none) (some (.inr ()))

def qbf (n:Nat) (b:Int):Int×Int×Int→Option ((Int×Int×Int)⊕((Int×Int×Int)))
  | (a,c,d)=>cond (decide (a<b)) ((chk (2*a)).bind fun z40=>((loopN n (F.qcl n b z40) ()).bind fun o43=>match o43 with
    | ()=>(chk (0+a)).bind fun z58=>cond (decide (z58<b)) (none) ((chk (a*2)).bind fun z62=>some (.inl (z62,0,z40))))) (some (.inr (a,c,d)))

def qbn (n:Nat) (d:Int):Int×Int×(List ((List Int)×((List Int)×Int)))→Option ((Int×Int×(List ((List Int)×((List Int)×Int))))⊕((Int×Int×(List ((List Int)×((List Int)×Int))))))
  | (c,a,b)=>cond (decide (a≤d)) ((F.qau n b c a).bind fun y16=>(chk (a+20)).bind fun z21=>some (.inl (a,z21,y16))) (some (.inr (c,a,b)))

def qbz (n:Nat) (b:List ((List Int)×((List Int)×Int))) (a:Int):Option ((List ((List Int)×((List Int)×Int)))):=
  ((loopN n (F.qbn n a) (0,20,b)).bind fun o5=>match o5 with
    | (c,e,d)=>(F.qau n d c a).bind fun y26=>((loopN n (F.qbf n a) (20,c,e)).bind fun o29=>match o29 with
    | (f,g,h)=>some y26))


def qba (n:Nat) (a:List ((List Int)×((List Int)×Int))):Option ((List ((List Int)×((List Int)×Int)))):=
  (F.qbz n a (a.length:Int)).bind fun y2=>some y2

def qdm (n:Nat) (e:List Int) (f:List Int) (g:Int) (x32:List Int):Int×(List Int)×(List Int)×Int→Option ((Int×(List Int)×(List Int)×Int)⊕((Int×(List Int)×(List Int)×Int)))
  | (b,a,c,d)=>cond (decide (b<(x32.length:Int))) ((get x32 b).bind fun x63=>(F.qgo n e f g x63 a).bind fun y70=>cond (decide (y70.2.2<0)) ((chk (b+1)).bind fun z91=>some (.inl (z91,y70.1,y70.2.1,1))) (cond (decide (y70.2.2=0)) ((chk (d+1)).bind fun z95=>(chk (b+1)).bind fun z98=>some (.inl (z98,a,c,z95))) ((chk (b+1)).bind fun z100=>some (.inl (z100,a,c,d))))) (some (.inr (b,a,c,d)))

def qfd (n:Nat) (f:List Int) (g:List Int) (h:Int) (y10:(List (List Int))):(List ((List Int)×((List Int)×Int)))×Int→Option (((List ((List Int)×((List Int)×Int)))×Int)⊕(((List ((List Int)×((List Int)×Int)))×Int)))
  | (e,a)=>cond (decide (a<(y10.length:Int))) ((get y10 a).bind fun x32=>((loopN n (F.qdm n f g h x32) (0,([]:List Int),([]:List Int),0)).bind fun o51=>match o51 with
    | (i,b,c,d)=>(lim (e.length+([(b,(c,d))]:List ((List Int)×((List Int)×Int))).length)).bind fun u110=>(chk (a+1)).bind fun z117=>some (.inl ((e++([(b,(c,d))]:List ((List Int)×((List Int)×Int)))),z117)))) (some (.inr (e,a)))

def qfz (n:Nat) (a:List Int) (b:List Int) (c:Int):Option ((List ((List Int)×((List Int)×Int)))):=
  (F.qgh n a b c).bind fun y10=>((loopN n (F.qfd n a b c y10) (([]:List ((List Int)×((List Int)×Int))),0)).bind fun o20=>match o20 with
    | (d,e)=>(F.qba n d).bind fun y122=>some y122)

def qfk (n:Nat) (y16:(List ((List Int)×((List Int)×Int)))):(List Int)×Int→Option (((List Int)×Int)⊕(((List Int)×Int)))
  | (b,a)=>cond (decide (a<(y16.length:Int))) ((get y16 a).bind fun x47=>(lim (b.length+([(x47.2.1.length:Int)]:List Int).length)).bind fun u82=>(lim ((b++([(x47.2.1.length:Int)]:List Int)).length+x47.1.length)).bind fun u90=>(chk (a+1)).bind fun z97=>some (.inl (((b++([(x47.2.1.length:Int)]:List Int))++x47.1),z97))) (some (.inr (b,a)))

def canon_Code (n:Nat) (b:List Int) (c:List Int) (a:Int):Option ((List Int)):=
  (F.qen n b c a).bind fun y9=>cond (!y9) (some ([])) ((F.qfz n b c a).bind fun y16=>((loopN n (F.qfk n y16) (([a,(y16.length:Int)]:List Int),0)).bind fun o35=>match o35 with
    | (d,e)=>some d))

def qcp (n:Nat) (b:List Int) (c:List Int):Int→Option ((Int)⊕((Int)⊕(Bool)))
  | a=>cond (decide (a<(b.length:Int))) ((get b a).bind fun x25=>(get c a).bind fun x32=>cond (!(decide (x25=x32))) (some (.inr (.inr false))) ((chk (a+1)).bind fun z41=>some (.inl z41))) (some (.inr (.inl a)))

def qeb (n:Nat) (a:List Int) (b:List Int):Option (Bool):=
  cond (!(decide ((a.length:Int)=(b.length:Int)))) (some false) (((loopN n (F.qcp n a b) 0).bind fun o10=>match o10 with
    | (.inl c)=>some true
    | (.inr q)=>some q))


def qgf (n:Nat) (a:List Int) (b:List Int) (c:Int) (d:List Int) (e:List Int) (f:Int):Option (Bool):=
  (F.qen n a b c).bind fun y14=>cond (!y14) (some false) ((F.qen n d e f).bind fun y19=>cond (!y19) (some false) ((F.canon_Code n a b c).bind fun y28=>(F.canon_Code n d e f).bind fun y37=>(F.qeb n y28 y37).bind fun y46=>some y46))


def qfr (n:Nat) (a:Int):Option (Int):=
  (chk (-a)).bind fun z3=>some (max a z3)


def qet (n:Nat) (a:Int) (b:Int) (d:List Int) (c:List Int) (e:Int):Option ((List Int)):=
  (get c a).bind fun x6=>(get (c.set a.toNat b) b).bind fun x14=>some ((c.set a.toNat b).set b.toNat a)


def qer (n:Nat) (a:Int) (h:Int) (g:Int) (b:List Int) (d:List Int) (e:List Int) (c:List Int) (f:Int):Option ((List Int)×(List Int)×(List Int)):=
  (get b a).bind fun x11=>cond (decide (x11<0)) ((get d a).bind fun x18=>(get b a).bind fun x25=>some ((b.set a.toNat g),(d.set a.toNat h),c)) ((get b a).bind fun x34=>(F.qet n x34 h e c f).bind fun y41=>(get b a).bind fun x46=>some ((b.set a.toNat g),d,y41))

def qfj (n:Nat) (b:Int) (k:List Int) (a:List Int) (c:List Int) (d:List Int) (e:Int) (j:Int) (f:Int) (g:Int) (h:Int) (i:Int):Option ((Int×(List Int)×(List Int)×(List Int)×(List Int))⊕((Int×(List Int)×(List Int)×(List Int)×(List Int)))):=
  (chk (j-1)).bind fun z631=>(chk (4*b)).bind fun z633=>(chk (z633+f)).bind fun z635=>(chk (4*b)).bind fun z637=>(chk (z637+i)).bind fun z639=>(F.qer n z631 z635 z639 d c (a++([e]:List Int)) k 0).bind fun y641=>(chk (4*b)).bind fun z645=>(chk (z645+g)).bind fun z647=>(chk (4*b)).bind fun z649=>(chk (z649+h)).bind fun z651=>(F.qer n j z647 z651 y641.1 y641.2.1 (a++([e]:List Int)) y641.2.2 0).bind fun y653=>(chk (b+1)).bind fun z656=>some (.inl (z656,y653.2.2,(a++([e]:List Int)),y653.2.1,y653.1))

def qes (n:Nat) (f:Int) (e:List Int) (a:List Int) (b:List Int) (c:List Int) (x570:Int) (d:Int) (g:Bool):Option ((Int×(List Int)×(List Int)×(List Int)×(List Int))⊕((Int×(List Int)×(List Int)×(List Int)×(List Int)))):=
  (lim (a.length+([d]:List Int).length)).bind fun u589=>(chk (d+1)).bind fun z600=>(nz 2).bind fun u602=>(chk (Int.tdiv z600 2)).bind fun z604=>(get ([(0,(1,(2,3))),(3,(0,(1,2)))]:List (Int×(Int×(Int×Int)))) z604).bind fun x606=>(F.qfr n x570).bind fun y612=>F.qfj n f e a b c d y612 x606.1 x606.2.1 x606.2.2.1 x606.2.2.2

def qdu (n:Nat) (g:List Int) (f:List Int) (e:List Int) (c:List Int):Int×(List Int)×Int→Option ((Int×(List Int)×Int)⊕((Int×(List Int)×Int)))
  | (a,d,b)=>cond (decide (a<(g.length:Int))) ((get c a).bind fun x675=>cond (decide (x675<0)) ((chk (b+1)).bind fun z682=>(chk (a+1)).bind fun z685=>some (.inl (z685,d,z682))) ((get c a).bind fun x689=>(get e a).bind fun x696=>(F.qet n x689 x696 f d b).bind fun y703=>(chk (a+1)).bind fun z707=>some (.inl (z707,y703,b)))) (some (.inr (a,d,b)))

def qdr (n:Nat) (f:List Int):Int×(List Int)×(List Int)×(List Int)×(List Int)→Option ((Int×(List Int)×(List Int)×(List Int)×(List Int))⊕((Int×(List Int)×(List Int)×(List Int)×(List Int))))
  | (d,e,c,a,b)=>cond (decide (d<(f.length:Int))) ((get f d).bind fun x570=>cond (decide (x570<0)) (F.qes n d e c a b x570 (-1) (decide (x570<0))) (F.qes n d e c a b x570 1 (decide (x570<0)))) (some (.inr (d,e,c,a,b)))

def qdt (n:Nat) (d:List Int):Int×(List Int)×(List Int)→Option ((Int×(List Int)×(List Int))⊕((Int×(List Int)×(List Int))))
  | (a,b,c)=>cond (decide (a<(d.length:Int))) ((get b a).bind fun x529=>(get c a).bind fun x537=>(chk (a+1)).bind fun z545=>some (.inl (z545,(b.set a.toNat (-1)),(c.set a.toNat (-1))))) (some (.inr (a,b,c)))

def qgc (n:Nat) (k:List Int) (z33:Int) (a:List Int) (h:List Int):Option ((List Int)×(List Int)×Int×Int):=
  ((loopN n (F.qdt n a) (0,a,h)).bind fun o515=>match o515 with
    | (m,c,d)=>((loopN n (F.qdr n k) (0,(List.replicate z33.toNat (0:Int)),([]:List Int),c,d)).bind fun o558=>match o558 with
    | (o,i,b,e,f)=>((loopN n (F.qdu n a b e f) (0,i,0)).bind fun o662=>match o662 with
    | (l,j,g)=>some (b,j,g,0))))

def qgg (n:Nat) (a:Int) (b:List Int):Option ((List Int)×(List Int)×Int×Int):=
  (F.qfs n a b).bind fun y11=>cond (!y11) (some ([],[],0,1)) (cond (decide (64<(b.length:Int))) (some ([],[],0,5)) ((chk (4*(b.length:Int))).bind fun z33=>(pos z33).bind fun u35=>(pos a).bind fun u51=>(pos a).bind fun u59=>F.qgc n b z33 (List.replicate a.toNat (0:Int)) (List.replicate a.toNat (0:Int))))


def law44_GridlinkCloses (n:Nat) (a:Int) (b:List Int):Option (Bool):=
  (F.law44_awake n).bind fun y5=>cond (!y5) (some false) (cond (decide (40<(b.length:Int))) (some true) ((F.qfs n a b).bind fun y19=>cond (!y19) (some true) ((F.qec n a b).bind fun y26=>cond (!(decide (y26.2.2=0))) ((chk (2*a)).bind fun z50=>(chk (z50+(b.length:Int))).bind fun z52=>some (decide (40<z52))) ((F.qex n y26.1 y26.2.1).bind fun y55=>(F.qgg n a b).bind fun y78=>(F.qge n y26.1 y26.2.1).bind fun y100=>cond y100 (cond (decide (y55.2.2.2=0)) (cond (decide (y78.2.2.2=0)) ((F.qgf n y55.1 y55.2.1 y55.2.2.1 y78.1 y78.2.1 y78.2.2.1).bind fun y106=>some y106) (some false)) (some false)) (some false)))))
