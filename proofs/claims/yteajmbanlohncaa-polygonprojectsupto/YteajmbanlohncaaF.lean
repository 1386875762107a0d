import Derived.Test.YteajmbanlohncaaRun
import Derived.Test.YteajmbanlohncaaShort
import Derived.Test.YteajmbanlohncaaCall
import Derived.Test.YteajmbanlohncaaNest
import Derived.Test.YteajmbanlohncaaSort
import Derived.Test.YteajmbanlohncaaSortK
import Derived.Test.YteajmbanlohncaaArr
import Derived.Test.YteajmbanlohncaaRow
import Derived.Test.YteajmbanlohncaaMap
import Derived.Test.YteajmbanlohncaaCut
import Derived.Test.YteajmbanlohncaaElem
import Derived.Test.YteajmbanlohncaaNil
import Derived.Test.YteajmbanlohncaaView
import Derived.Test.YteajmbanlohncaaInsP
import Derived.Test.YteajmbanlohncaaAlt
set_option linter.unusedVariables false
set_option linter.unusedSimpArgs false
namespace Go.Proofs.Yteajmbanlohncaa
open Ev
namespace F
def polygon_within_b0 (n:Nat) (b:Int) (c:Int) (d:Int):Int→Option ((Int)⊕((Int)⊕(Bool)))
  | a=>cond (decide (a<3)) ((get ([b,c,d]:List Int) a).bind fun x20=>cond (decide (x20<(-1000))) (some (.inr (.inr false))) (cond (decide (1000<x20)) (some (.inr (.inr false))) ((chk (a+1)).bind fun z28=>some (.inl z28)))) (some (.inr (.inl a)))

def polygon_within (n:Nat) (a:Int) (b:Int) (c:Int):Option (Bool):=
  ((loopN n (F.polygon_within_b0 n a b c) 0).bind fun o8=>match o8 with
    | (.inl d)=>some true
    | (.inr q)=>some q)

def polygon_valid_b1 (n:Nat) (x18:List (Int×(Int×Int))):Int→Option ((Int)⊕((Int)⊕(Bool)))
  | a=>cond (decide (a<(x18.length:Int))) ((get x18 a).bind fun x52=>(F.polygon_within n x52.1 x52.2.1 x52.2.2).bind fun y71=>cond (!y71) (some (.inr (.inr false))) ((chk (a+1)).bind fun z76=>some (.inl z76))) (some (.inr (.inl a)))

def polygon_valid_b0 (n:Nat) (c:List (List (Int×(Int×Int)))):Int×Int→Option ((Int×Int)⊕((Int×Int)⊕(Bool)))
  | (b,a)=>cond (decide (a<(c.length:Int))) ((get c a).bind fun x18=>(chk (b+(x18.length:Int))).bind fun z30=>cond (decide ((x18.length:Int)<3)) (some (.inr (.inr false))) (cond (decide (100<z30)) (some (.inr (.inr false))) (((loopN n (F.polygon_valid_b1 n x18) 0).bind fun o40=>match o40 with
    | (.inl d)=>(chk (a+1)).bind fun z80=>some (.inl (z30,z80))
    | (.inr q)=>some (.inr (.inr q)))))) (some (.inr (.inl (b,a))))

def polygon_valid (n:Nat) (a:List (List (Int×(Int×Int)))):Option (Bool):=
  ((loopN n (F.polygon_valid_b0 n a) (0,0)).bind fun o6=>match o6 with
    | (.inl (c,b))=>some true
    | (.inr q)=>some q)

def polygon_edges_b1 (n:Nat) (c:List ((Int×(Int×Int))×((Int×(Int×Int))×(Int×Int)))) (x19:List (Int×(Int×Int))):(List ((Int×(Int×Int))×((Int×(Int×Int))×(Int×Int))))×Int→Option (((List ((Int×(Int×Int))×((Int×(Int×Int))×(Int×Int))))×Int)⊕(((List ((Int×(Int×Int))×((Int×(Int×Int))×(Int×Int))))×Int)))
  | (b,a)=>cond (decide (a<(x19.length:Int))) ((get x19 a).bind fun x45=>(chk (a+1)).bind fun z64=>(nz (x19.length:Int)).bind fun u66=>(get x19 (Int.tmod z64 (x19.length:Int))).bind fun x71=>(chk ((c.length:Int)+a)).bind fun z86=>(chk ((c.length:Int)+(Int.tmod z64 (x19.length:Int)))).bind fun z88=>(lim (b.length+([((x45.1,(x45.2.1,x45.2.2)),((x71.1,(x71.2.1,x71.2.2)),(z86,z88)))]:List ((Int×(Int×Int))×((Int×(Int×Int))×(Int×Int)))).length)).bind fun u96=>(chk (a+1)).bind fun z103=>some (.inl ((b++([((x45.1,(x45.2.1,x45.2.2)),((x71.1,(x71.2.1,x71.2.2)),(z86,z88)))]:List ((Int×(Int×Int))×((Int×(Int×Int))×(Int×Int))))),z103))) (some (.inr (b,a)))

def polygon_edges_b0 (n:Nat) (c:List (List (Int×(Int×Int)))):(List ((Int×(Int×Int))×((Int×(Int×Int))×(Int×Int))))×Int→Option (((List ((Int×(Int×Int))×((Int×(Int×Int))×(Int×Int))))×Int)⊕(((List ((Int×(Int×Int))×((Int×(Int×Int))×(Int×Int))))×Int)))
  | (b,a)=>cond (decide (a<(c.length:Int))) ((get c a).bind fun x19=>((loopN n (F.polygon_edges_b1 n b x19) (b,0)).bind fun o33=>match o33 with
    | (d,e)=>(chk (a+1)).bind fun z107=>some (.inl (d,z107)))) (some (.inr (b,a)))

def polygon_edges (n:Nat) (b:List (List (Int×(Int×Int)))):Option ((List ((Int×(Int×Int))×((Int×(Int×Int))×(Int×Int))))):=
  ((loopN n (F.polygon_edges_b0 n b) (([]:List ((Int×(Int×Int))×((Int×(Int×Int))×(Int×Int)))),0)).bind fun o7=>match o7 with
    | (a,c)=>some a)


def polygon_turn (n:Nat) (a:Int) (b:Int) (g:Int) (c:Int) (d:Int) (h:Int) (e:Int) (f:Int) (i:Int):Option (Int):=
  (chk (c-a)).bind fun z12=>(chk (f-b)).bind fun z14=>(chk (z12*z14)).bind fun z16=>(chk (d-b)).bind fun z18=>(chk (e-a)).bind fun z20=>(chk (z18*z20)).bind fun z22=>(chk (z16-z22)).bind fun z24=>some z24


def polygon_on (n:Nat) (a:Int) (b:Int) (g:Int) (c:Int) (d:Int) (h:Int) (e:Int) (f:Int) (i:Int):Option (Bool):=
  (F.polygon_turn n a b g c d h e f i).bind fun y12=>cond (decide (y12=0)) (cond (decide ((min a c)≤e)) (cond (decide (e≤(max a c))) (cond (decide ((min b d)≤f)) (some (decide (f≤(max b d)))) (some false)) (some false)) (some false)) (some false)


def polygon_opposite (n:Nat) (a:Int) (b:Int):Option (Bool):=
  cond (decide (a<0)) (cond (decide (0<b)) (some true) (cond (decide (0<a)) (some (decide (b<0))) (some false))) (cond (decide (0<a)) (some (decide (b<0))) (some false))

def polygon_Cross_j3 (n:Nat) (a:Int) (b:Int) (c:Int) (d:Int):Option (Int×Bool):=
  (chk (b*c)).bind fun z152=>(chk (d*a)).bind fun z154=>cond (decide (z152=z154)) (some (2,false)) ((chk (b*c)).bind fun z159=>(chk (d*a)).bind fun z161=>some (1,(decide (z161<z159))))

def polygon_Cross_j2 (n:Nat) (z114:Int) (z129:Int) (a:Int) (b:Int):Option (Int×Bool):=
  cond (decide (z114<0)) ((chk (-z114)).bind fun z144=>(chk (-z129)).bind fun z146=>F.polygon_Cross_j3 n a b z144 z146) (F.polygon_Cross_j3 n a b z114 z129)

def polygon_Cross_j1 (n:Nat) (e:Int) (f:Int) (a:Int) (g:Int) (h:Int) (b:Int) (i:Int) (j:Int) (c:Int) (k:Int) (l:Int) (d:Int) (y51:Int) (y55:Int) (y63:Int) (y67:Int) (m:Bool):Option (Int×Bool):=
  cond m ((F.polygon_on n e f a g h b i j c).bind fun y86=>cond y86 (some (2,false)) ((F.polygon_on n e f a g h b k l d).bind fun y92=>cond y92 (some (2,false)) ((F.polygon_on n i j c k l d e f a).bind fun y98=>cond y98 (some (2,false)) ((F.polygon_on n i j c k l d g h b).bind fun y104=>cond y104 (some (2,false)) (some (0,false)))))) ((chk (y63-y67)).bind fun z112=>(chk (y51-y55)).bind fun z114=>(chk (b*y63)).bind fun z119=>(chk (a*y67)).bind fun z121=>(chk (z119-z121)).bind fun z123=>(chk (d*y51)).bind fun z125=>(chk (c*y55)).bind fun z127=>(chk (z125-z127)).bind fun z129=>cond (decide (z112<0)) ((chk (-z112)).bind fun z135=>(chk (-z123)).bind fun z137=>F.polygon_Cross_j2 n z114 z129 z135 z137) (F.polygon_Cross_j2 n z114 z129 z112 z123))

def polygon_Cross_b0 (n:Nat) (b:Int) (c:Int) (d:Int) (e:Int) (f:Int) (g:Int) (h:Int) (i:Int) (j:Int) (k:Int) (l:Int) (m:Int):Int→Option ((Int)⊕((Int)⊕(Int×Bool)))
  | a=>cond (decide (a<4)) ((get ([(b,(c,d)),(e,(f,g)),(h,(i,j)),(k,(l,m))]:List (Int×(Int×Int))) a).bind fun x29=>(F.polygon_within n x29.1 x29.2.1 x29.2.2).bind fun y39=>cond (!y39) (some (.inr (.inr (2,false)))) ((chk (a+1)).bind fun z44=>some (.inl z44))) (some (.inr (.inl a)))

def polygon_Cross (n:Nat) (a:Int) (b:Int) (c:Int) (d:Int) (e:Int) (f:Int) (g:Int) (h:Int) (i:Int) (j:Int) (k:Int) (l:Int):Option (Int×Bool):=
  ((loopN n (F.polygon_Cross_b0 n a b c d e f g h i j k l) 0).bind fun o17=>match o17 with
    | (.inl m)=>(F.polygon_turn n a b c d e f g h i).bind fun y51=>(F.polygon_turn n a b c d e f j k l).bind fun y55=>(F.polygon_turn n g h i j k l a b c).bind fun y63=>(F.polygon_turn n g h i j k l d e f).bind fun y67=>(F.polygon_opposite n y51 y55).bind fun y74=>cond (!y74) (F.polygon_Cross_j1 n a b c d e f g h i j k l y51 y55 y63 y67 true) ((F.polygon_opposite n y63 y67).bind fun y78=>F.polygon_Cross_j1 n a b c d e f g h i j k l y51 y55 y63 y67 (!y78))
    | (.inr q)=>some q)


def polygon_cross_c1 (n:Nat) (a:Int) (i:Bool) (b:List ((Int×(Int×Int))×((Int×(Int×Int))×(Int×Int)))) (c:Int) (d:Int) (e:Int) (f:Int) (g:Int) (h:Int) (j:Int) (k:Int):Option (Int×Int):=
  (get b a).bind fun x9=>(F.polygon_turn n x9.1.1 x9.1.2.1 x9.1.2.2 x9.2.1.1 x9.2.1.2.1 x9.2.1.2.2 c d e).bind fun y50=>(F.polygon_turn n x9.1.1 x9.1.2.1 x9.1.2.2 x9.2.1.1 x9.2.1.2.1 x9.2.1.2.2 f g h).bind fun y54=>(chk (-y50)).bind fun z60=>(chk (y50-y54)).bind fun z62=>(chk (y54-y50)).bind fun z64=>some ((max y50 z60),(max z62 z64))


def polygon_cross_c2 (n:Nat) (j:Int) (k:Bool) (l:Int) (m:Bool) (a:List ((Int×(Int×Int))×((Int×(Int×Int))×(Int×Int)))) (b:Int) (c:Int) (d:Int) (e:Int) (f:Int) (g:Int) (h:Int) (i:Int):Option (Int):=
  (F.polygon_cross_c1 n j k a b c d e f g h i).bind fun y13=>(F.polygon_cross_c1 n l m a b c d e f g h i).bind fun y20=>(chk (y13.1*y20.2)).bind fun z26=>(chk (y20.1*y13.2)).bind fun z28=>(chk (z26-z28)).bind fun z30=>some z30

def slices_SortFunc_passage_passage_polygon_cross_c2 (n:Nat) (j:List (Int×Bool)) (a:List ((Int×(Int×Int))×((Int×(Int×Int))×(Int×Int)))) (b:Int) (c:Int) (d:Int) (e:Int) (f:Int) (g:Int) (h:Int) (i:Int):Option (List (Int×Bool)):=if (j.all fun x=>j.all fun y=>(polygon_cross_c2 n x.1 x.2 y.1 y.2 a b c d e f g h i).isSome)=true∧swoL (fun x y:(Int×Bool)=>(polygon_cross_c2 n x.1 x.2 y.1 y.2 a b c d e f g h i).getD 0) j=true∧j.length≤1099511627776 then some (sortL (fun x y:(Int×Bool)=>(polygon_cross_c2 n x.1 x.2 y.1 y.2 a b c d e f g h i).getD 0) j) else none

def polygon_cross_j3 (n:Nat) (c:Int) (x30:(Int×(Int×Int))×((Int×(Int×Int))×(Int×Int))) (b:Int) (a:List (List (Int×Bool))) (x82:(Int×(Int×Int))×((Int×(Int×Int))×(Int×Int))) (d:Bool):Option ((Int×(List (List (Int×Bool))))⊕((Int×(List (List (Int×Bool))))⊕((List (List (Int×Bool)))×Bool))):=
  cond (decide (x82.2.2.1=x30.2.2.2)) ((chk (b+1)).bind fun z150=>some (.inl (z150,a))) (cond (decide (x82.2.2.2=x30.2.2.1)) ((chk (b+1)).bind fun z153=>some (.inl (z153,a))) ((F.polygon_Cross n x30.1.1 x30.1.2.1 x30.1.2.2 x30.2.1.1 x30.2.1.2.1 x30.2.1.2.2 x82.1.1 x82.1.2.1 x82.1.2.2 x82.2.1.1 x82.2.1.2.1 x82.2.1.2.2).bind fun y157=>cond (decide (y157.1=2)) (some (.inr (.inr ([],false)))) (cond (decide (y157.1=1)) ((get a c).bind fun x169=>(lim (x169.length+([(b,y157.2)]:List (Int×Bool)).length)).bind fun u189=>(get a c).bind fun x196=>(chk (b+1)).bind fun z206=>some (.inl (z206,(a.set c.toNat (x169++([(b,y157.2)]:List (Int×Bool))))))) ((chk (b+1)).bind fun z208=>some (.inl (z208,a))))))

def polygon_cross_j2 (n:Nat) (b:Int) (x30:(Int×(Int×Int))×((Int×(Int×Int))×(Int×Int))) (c:Int) (a:List (List (Int×Bool))) (x82:(Int×(Int×Int))×((Int×(Int×Int))×(Int×Int))) (d:Bool):Option ((Int×(List (List (Int×Bool))))⊕((Int×(List (List (Int×Bool))))⊕((List (List (Int×Bool)))×Bool))):=
  cond (!(decide (x82.2.2.1=x30.2.2.2))) ((F.polygon_on n x30.1.1 x30.1.2.1 x30.1.2.2 x30.2.1.1 x30.2.1.2.1 x30.2.1.2.2 x82.1.1 x82.1.2.1 x82.1.2.2).bind fun y138=>cond y138 (some (.inr (.inr ([],false)))) (F.polygon_cross_j3 n b x30 c a x82 y138)) (F.polygon_cross_j3 n b x30 c a x82 false)

def polygon_cross_b4 (n:Nat) (d:List ((Int×(Int×Int))×((Int×(Int×Int))×(Int×Int)))) (a:Int) (x30:(Int×(Int×Int))×((Int×(Int×Int))×(Int×Int))) (c:List (List (Int×Bool))) (y233:List (Int×Bool)):Int→Option ((Int)⊕((Int)⊕((List (List (Int×Bool)))×Bool)))
  | b=>(get (c.set a.toNat y233) a).bind fun x248=>cond (decide (b<(x248.length:Int))) ((get (c.set a.toNat y233) a).bind fun x267=>(chk (b-1)).bind fun z276=>(get x248 z276).bind fun x278=>(get (c.set a.toNat y233) a).bind fun x289=>(get x248 b).bind fun x298=>(F.polygon_cross_c2 n x278.1 x278.2 x298.1 x298.2 d x30.1.1 x30.1.2.1 x30.1.2.2 x30.2.1.1 x30.2.1.2.1 x30.2.1.2.2 x30.2.2.1 x30.2.2.2).bind fun y309=>cond (decide (y309=0)) (some (.inr (.inr ([],false)))) ((chk (b+1)).bind fun z318=>some (.inl z318))) (some (.inr (.inl b)))

def polygon_cross_b1 (n:Nat) (d:List ((Int×(Int×Int))×((Int×(Int×Int))×(Int×Int)))) (c:Int) (x30:(Int×(Int×Int))×((Int×(Int×Int))×(Int×Int))):Int×(List (List (Int×Bool)))→Option ((Int×(List (List (Int×Bool))))⊕((Int×(List (List (Int×Bool))))⊕((List (List (Int×Bool)))×Bool)))
  | (a,b)=>cond (decide (a<(d.length:Int))) ((get d a).bind fun x82=>cond (decide (a=c)) ((chk (a+1)).bind fun z123=>some (.inl (z123,b))) (cond (decide (x30.1.1=x82.1.1)) (cond (decide (x30.1.2.1=x82.1.2.1)) (some (.inr (.inr ([],false)))) (F.polygon_cross_j2 n c x30 a b x82 (decide (x30.1.2.1=x82.1.2.1)))) (F.polygon_cross_j2 n c x30 a b x82 false))) (some (.inr (.inl (a,b))))

def polygon_cross_b0 (n:Nat) (b:List ((Int×(Int×Int))×((Int×(Int×Int))×(Int×Int)))):Int×(List (List (Int×Bool)))→Option ((Int×(List (List (Int×Bool))))⊕((Int×(List (List (Int×Bool))))⊕((List (List (Int×Bool)))×Bool)))
  | (a,d)=>cond (decide (a<(b.length:Int))) ((get b a).bind fun x30=>((loopN n (F.polygon_cross_b1 n b a x30) (0,d)).bind fun o70=>match o70 with
    | (.inl (e,c))=>(get c a).bind fun x219=>(F.slices_SortFunc_passage_passage_polygon_cross_c2 n x219 b x30.1.1 x30.1.2.1 x30.1.2.2 x30.2.1.1 x30.2.1.2.1 x30.2.1.2.2 x30.2.2.1 x30.2.2.2).bind fun y233=>((loopN n (F.polygon_cross_b4 n b a x30 c y233) 1).bind fun o239=>match o239 with
    | (.inl f)=>(chk (a+1)).bind fun z322=>some (.inl (z322,(c.set a.toNat y233)))
    | (.inr q)=>some (.inr (.inr q)))
    | (.inr q)=>some (.inr (.inr q)))) (some (.inr (.inl (a,d))))

def polygon_cross (n:Nat) (a:List ((Int×(Int×Int))×((Int×(Int×Int))×(Int×Int)))):Option ((List (List (Int×Bool)))×Bool):=
  (pos (a.length:Int)).bind fun u7=>((loopN n (F.polygon_cross_b0 n a) (0,(List.replicate (a.length:Int).toNat ([]:List (Int×Bool))))).bind fun o18=>match o18 with
    | (.inl (c,b))=>some (b,true)
    | (.inr q)=>some q)


def polygon_sign (n:Nat) (e:Int) (f:Int) (m:Int) (g:Int) (h:Int) (o:Int) (p:Int) (q:Int) (a:Int) (b:Int) (i:Int) (c:Int) (d:Int) (j:Int) (k:Int) (l:Int):Option (Int):=
  (chk (g-e)).bind fun z11=>(chk (h-f)).bind fun z13=>(chk (d-b)).bind fun z18=>(chk (z11*z18)).bind fun z20=>(chk (c-a)).bind fun z22=>(chk (z13*z22)).bind fun z24=>(chk (z20-z24)).bind fun z26=>cond (decide (0<z26)) (some 1) (some (-1))

def polygon_code_j3 (n:Nat) (b:List (Int×Bool)) (e:Int) (x86:Int×Bool) (c:Int) (f:Bool) (a:List Int) (d:List ((Int×Int)×Int)):Option (((List (Int×Bool))×Int×(List Int)×(List ((Int×Int)×Int)))⊕(((List (Int×Bool))×Int×(List Int)×(List ((Int×Int)×Int))))):=
  (lim (b.length+([(c,x86.2)]:List (Int×Bool)).length)).bind fun u307=>(chk (e+1)).bind fun z314=>some (.inl ((b++([(c,x86.2)]:List (Int×Bool))),z314,a,d))

def polygon_code_b2 (n:Nat) (f:List ((Int×(Int×Int))×((Int×(Int×Int))×(Int×Int)))) (a:Int) (x62:List (Int×Bool)):(List (Int×Bool))×Int×(List Int)×(List ((Int×Int)×Int))→Option (((List (Int×Bool))×Int×(List Int)×(List ((Int×Int)×Int)))⊕(((List (Int×Bool))×Int×(List Int)×(List ((Int×Int)×Int)))))
  | (e,d,b,c)=>cond (decide (d<(x62.length:Int))) ((get x62 d).bind fun x86=>(chk ((mget c ((min a x86.1),(max a x86.1))).getD 0)).bind fun z107=>cond (!(mget c ((min a x86.1),(max a x86.1))).isSome) ((nok (mget c ((min a x86.1),(max a x86.1)))).bind fun u115=>(get f a).bind fun x121=>(get f x86.1).bind fun x156=>cond (!x86.2) ((F.polygon_sign n x156.1.1 x156.1.2.1 x156.1.2.2 x156.2.1.1 x156.2.1.2.1 x156.2.1.2.2 x156.2.2.1 x156.2.2.2 x121.1.1 x121.1.2.1 x121.1.2.2 x121.2.1.1 x121.2.1.2.1 x121.2.1.2.2 x121.2.2.1 x121.2.2.2).bind fun y207=>(lim (b.length+([y207]:List Int).length)).bind fun u217=>F.polygon_code_j3 n e d x86 (b.length:Int) (!(mget c ((min a x86.1),(max a x86.1))).isSome) (b++([y207]:List Int)) (c++[(((min a x86.1),(max a x86.1)),(b.length:Int))])) ((F.polygon_sign n x121.1.1 x121.1.2.1 x121.1.2.2 x121.2.1.1 x121.2.1.2.1 x121.2.1.2.2 x121.2.2.1 x121.2.2.2 x156.1.1 x156.1.2.1 x156.1.2.2 x156.2.1.1 x156.2.1.2.1 x156.2.1.2.2 x156.2.2.1 x156.2.2.2).bind fun y227=>(lim (b.length+([y227]:List Int).length)).bind fun u237=>F.polygon_code_j3 n e d x86 (b.length:Int) (!(mget c ((min a x86.1),(max a x86.1))).isSome) (b++([y227]:List Int)) (c++[(((min a x86.1),(max a x86.1)),(b.length:Int))]))) (F.polygon_code_j3 n e d x86 z107 (!(mget c ((min a x86.1),(max a x86.1))).isSome) b c)) (some (.inr (e,d,b,c)))

def polygon_code_b1 (n:Nat) (g:List ((Int×(Int×Int))×((Int×(Int×Int))×(Int×Int)))) (c:List (List (Int×Bool))) (j:Int) (x33:List (Int×(Int×Int))):(List (Int×Bool))×Int×(List Int)×(List ((Int×Int)×Int))→Option (((List (Int×Bool))×Int×(List Int)×(List ((Int×Int)×Int)))⊕(((List (Int×Bool))×Int×(List Int)×(List ((Int×Int)×Int)))))
  | (f,a,b,d)=>(chk (j+(x33.length:Int))).bind fun z57=>cond (decide (a<z57)) ((get c a).bind fun x62=>((loopN n (F.polygon_code_b2 n g a x62) (f,0,b,d)).bind fun o74=>match o74 with
    | (i,k,e,h)=>(chk (a+1)).bind fun z318=>some (.inl (i,z318,e,h)))) (some (.inr (f,a,b,d)))

def polygon_code_b0 (n:Nat) (l:List (List (Int×(Int×Int)))) (k:List ((Int×(Int×Int))×((Int×(Int×Int))×(Int×Int)))) (f:List (List (Int×Bool))):Int×Int×(List (List (Int×Bool)))×(List Int)×Int×(List ((Int×Int)×Int))→Option ((Int×Int×(List (List (Int×Bool)))×(List Int)×Int×(List ((Int×Int)×Int)))⊕((Int×Int×(List (List (Int×Bool)))×(List Int)×Int×(List ((Int×Int)×Int)))))
  | (g,c,a,d,b,i)=>cond (decide (c<(l.length:Int))) ((get l c).bind fun x33=>((loopN n (F.polygon_code_b1 n k f g x33) (([]:List (Int×Bool)),g,d,i)).bind fun o48=>match o48 with
    | (h,m,e,j)=>(chk (g+(x33.length:Int))).bind fun z323=>cond (decide (0<(h.length:Int))) ((lim (a.length+([h]:List (List (Int×Bool))).length)).bind fun u333=>(chk (c+1)).bind fun z341=>some (.inl (z323,z341,(a++([h]:List (List (Int×Bool)))),e,b,j))) ((chk (b+1)).bind fun z343=>(chk (c+1)).bind fun z346=>some (.inl (z323,z346,a,e,z343,j))))) (some (.inr (g,c,a,d,b,i)))

def polygon_code (n:Nat) (f:List (List (Int×(Int×Int)))) (e:List ((Int×(Int×Int))×((Int×(Int×Int))×(Int×Int)))) (a:List (List (Int×Bool))):Option ((List (List (Int×Bool)))×(List Int)×Int):=
  ((loopN n (F.polygon_code_b0 n f e a) (0,0,([]:List (List (Int×Bool))),([]:List Int),0,([]:List ((Int×Int)×Int)))).bind fun o21=>match o21 with
    | (i,h,b,c,d,g)=>some (b,c,d))

def gauss_Valid_b2 (n:Nat) (e:List Int) (x81:List (Int×Bool)):Int×Int×(List Bool)×(List Bool)→Option ((Int×Int×(List Bool)×(List Bool))⊕((Int×Int×(List Bool)×(List Bool))⊕(Bool)))
  | (d,c,a,b)=>cond (decide (c<(x81.length:Int))) ((get x81 c).bind fun x110=>cond (decide (x110.1<0)) (some (.inr (.inr false))) (cond (decide ((e.length:Int)≤x110.1)) (some (.inr (.inr false))) (cond x110.2 ((get a x110.1).bind fun x137=>cond x137 (some (.inr (.inr false))) ((get a x110.1).bind fun x147=>(chk (d+1)).bind fun z154=>(chk (c+1)).bind fun z156=>some (.inl (z154,z156,(a.set x110.1.toNat true),b)))) ((get b x110.1).bind fun x160=>cond x160 (some (.inr (.inr false))) ((get b x110.1).bind fun x169=>(chk (d+1)).bind fun z176=>(chk (c+1)).bind fun z178=>some (.inl (z176,z178,a,(b.set x110.1.toNat true)))))))) (some (.inr (.inl (d,c,a,b))))

def gauss_Valid_b1 (n:Nat) (d:List (List (Int×Bool))) (h:List Int):Int×Int×(List Bool)×(List Bool)→Option ((Int×Int×(List Bool)×(List Bool))⊕((Int×Int×(List Bool)×(List Bool))⊕(Bool)))
  | (e,a,b,c)=>cond (decide (a<(d.length:Int))) ((get d a).bind fun x81=>cond (decide ((x81.length:Int)=0)) (some (.inr (.inr false))) (((loopN n (F.gauss_Valid_b2 n h x81) (e,0,b,c)).bind fun o98=>match o98 with
    | (.inl (i,j,f,g))=>(chk (a+1)).bind fun z182=>some (.inl (i,z182,f,g))
    | (.inr q)=>some (.inr (.inr q))))) (some (.inr (.inl (e,a,b,c))))

def gauss_Valid_b0 (n:Nat) (b:List Int):Int→Option ((Int)⊕((Int)⊕(Bool)))
  | a=>cond (decide (a<(b.length:Int))) ((get b a).bind fun x31=>cond (!(decide (x31=1))) (cond (!(decide (x31=(-1)))) (some (.inr (.inr false))) ((chk (a+1)).bind fun z41=>some (.inl z41))) ((chk (a+1)).bind fun z43=>some (.inl z43))) (some (.inr (.inl a)))

def gauss_Valid (n:Nat) (c:List (List (Int×Bool))) (a:List Int) (b:Int):Option (Bool):=
  cond (decide (64<(a.length:Int))) (some false) (cond (decide (b<0)) (some false) (cond (decide (64<b)) (some false) (((loopN n (F.gauss_Valid_b0 n a) 0).bind fun o19=>match o19 with
    | (.inl g)=>(pos (a.length:Int)).bind fun u48=>(pos (a.length:Int)).bind fun u57=>((loopN n (F.gauss_Valid_b1 n c a) (0,0,(List.replicate (a.length:Int).toNat false),(List.replicate (a.length:Int).toNat false))).bind fun o69=>match o69 with
    | (.inl (d,h,e,f))=>(chk (2*(a.length:Int))).bind fun z187=>some (decide (d=z187))
    | (.inr q)=>some q)
    | (.inr q)=>some q))))


def gauss_ends (n:Nat) (d:List (List (Int×Bool))) (c:List Int) (e:Int) (a:Int) (b:Bool):Option (Int×Int):=
  (chk (4*a)).bind fun z11=>cond (!b) ((chk (z11+2)).bind fun z18=>some (z11,z18)) ((get c a).bind fun x21=>cond (decide (x21=1)) ((chk (z11+3)).bind fun z29=>(chk (z11+1)).bind fun z31=>some (z29,z31)) ((chk (z11+1)).bind fun z34=>(chk (z11+3)).bind fun z36=>some (z34,z36)))

def gauss_mates_b1 (n:Nat) (c:List (List (Int×Bool))) (d:List Int) (e:Int) (x33:List (Int×Bool)):Int×(List Int)→Option ((Int×(List Int))⊕((Int×(List Int))))
  | (a,b)=>cond (decide (a<(x33.length:Int))) ((get x33 a).bind fun x57=>(F.gauss_ends n c d e x57.1 x57.2).bind fun y72=>(chk (a+1)).bind fun z81=>(nz (x33.length:Int)).bind fun u83=>(get x33 (Int.tmod z81 (x33.length:Int))).bind fun x85=>(F.gauss_ends n c d e x85.1 x85.2).bind fun y96=>(get b y72.2).bind fun x103=>(get (b.set y72.2.toNat y96.1) y96.1).bind fun x110=>(chk (a+1)).bind fun z117=>some (.inl (z117,((b.set y72.2.toNat y96.1).set y96.1.toNat y72.2)))) (some (.inr (a,b)))

def gauss_mates_b0 (n:Nat) (b:List (List (Int×Bool))) (e:List Int) (f:Int):Int×(List Int)→Option ((Int×(List Int))⊕((Int×(List Int))))
  | (a,c)=>cond (decide (a<(b.length:Int))) ((get b a).bind fun x33=>((loopN n (F.gauss_mates_b1 n b e f x33) (0,c)).bind fun o45=>match o45 with
    | (g,d)=>(chk (a+1)).bind fun z121=>some (.inl (z121,d)))) (some (.inr (a,c)))

def gauss_mates (n:Nat) (c:List (List (Int×Bool))) (a:List Int) (d:Int):Option ((List Int)):=
  (chk (4*(a.length:Int))).bind fun z8=>(pos z8).bind fun u10=>((loopN n (F.gauss_mates_b0 n c a d) (0,(List.replicate z8.toNat (0:Int)))).bind fun o21=>match o21 with
    | (e,b)=>some b)


def diagram_Turn (n:Nat) (a:Int) (b:Int):Option (Int):=
  cond (decide (a<0)) (some (-1)) ((nz 4).bind fun u7=>(chk (a-(Int.tmod a 4))).bind fun z9=>(nz 4).bind fun u11=>(nz 4).bind fun u13=>(chk ((Int.tmod a 4)+(Int.tmod b 4))).bind fun z15=>(chk (z15+4)).bind fun z17=>(nz 4).bind fun u19=>(chk (z9+(Int.tmod z17 4))).bind fun z21=>some z21)

def gauss_genus_b1 (n:Nat) (c:List Int):Int×(List Bool)→Option ((Int×(List Bool))⊕((Int×(List Bool))))
  | (b,a)=>(get a b).bind fun x58=>cond (!x58) ((get a b).bind fun x66=>(get c b).bind fun x73=>(F.diagram_Turn n x73 (-1)).bind fun y79=>some (.inl (y79,(a.set b.toNat true)))) (some (.inr (b,a)))

def gauss_genus_b4 (n:Nat) (d:List Int) (x155:Int):(List Int)×Int×(List Bool)→Option (((List Int)×Int×(List Bool))⊕(((List Int)×Int×(List Bool))))
  | (c,b,a)=>cond (decide (b<4)) ((chk (4*x155)).bind fun z183=>(chk (z183+b)).bind fun z185=>(get d z185).bind fun x187=>(nz 4).bind fun u193=>(chk (Int.tdiv x187 4)).bind fun z195=>(get a z195).bind fun x199=>cond (!x199) ((get a z195).bind fun x207=>(lim (c.length+([z195]:List Int).length)).bind fun u220=>(chk (b+1)).bind fun z227=>some (.inl ((c++([z195]:List Int)),z227,(a.set z195.toNat true)))) ((chk (b+1)).bind fun z229=>some (.inl (c,z229,a)))) (some (.inr (c,b,a)))

def gauss_genus_b3 (n:Nat) (c:List Int):(List Int)×(List Bool)→Option (((List Int)×(List Bool))⊕(((List Int)×(List Bool))))
  | (a,b)=>cond (decide (0<(a.length:Int))) ((chk ((a.length:Int)-1)).bind fun z153=>(get a z153).bind fun x155=>(chk ((a.length:Int)-1)).bind fun z163=>(cut 0 z163 a.length).bind fun u165=>((loopN n (F.gauss_genus_b4 n c x155) ((a.take z163.toNat),0,b)).bind fun o170=>match o170 with
    | (e,f,d)=>some (.inl (e,d)))) (some (.inr (a,b)))

def gauss_genus_b2 (n:Nat) (d:List Int) (z6:Int):Int×Int×(List Bool)→Option ((Int×Int×(List Bool))⊕((Int×Int×(List Bool))))
  | (c,a,b)=>cond (decide (a<z6)) ((get b a).bind fun x114=>cond x114 ((chk (a+1)).bind fun z121=>some (.inl (c,z121,b))) ((chk (c+1)).bind fun z124=>(get b a).bind fun x128=>((loopN n (F.gauss_genus_b3 n d) (([a]:List Int),(b.set a.toNat true))).bind fun o142=>match o142 with
    | (f,e)=>(chk (a+1)).bind fun z235=>some (.inl (z124,z235,e))))) (some (.inr (c,a,b)))

def gauss_genus_b0 (n:Nat) (c:List Int):Int×Int×(List Bool)→Option ((Int×Int×(List Bool))⊕((Int×Int×(List Bool))))
  | (d,a,b)=>cond (decide (a<(c.length:Int))) ((get b a).bind fun x35=>cond x35 ((chk (a+1)).bind fun z42=>some (.inl (d,z42,b))) ((chk (d+1)).bind fun z45=>((loopN n (F.gauss_genus_b1 n c) (a,b)).bind fun o49=>match o49 with
    | (f,e)=>(chk (a+1)).bind fun z85=>some (.inl (z45,z85,e))))) (some (.inr (d,a,b)))

def gauss_genus (n:Nat) (a:List Int):Option (Int):=
  (nz 4).bind fun u4=>(chk (Int.tdiv (a.length:Int) 4)).bind fun z6=>(pos (a.length:Int)).bind fun u10=>((loopN n (F.gauss_genus_b0 n a) (0,0,(List.replicate (a.length:Int).toNat false))).bind fun o21=>match o21 with
    | (b,f,d)=>(pos z6).bind fun u90=>((loopN n (F.gauss_genus_b2 n a z6) (0,0,(List.replicate z6.toNat false))).bind fun o100=>match o100 with
    | (c,g,e)=>(chk (2*c)).bind fun z240=>(chk (z240+z6)).bind fun z242=>(chk (z242-b)).bind fun z244=>(nz 2).bind fun u246=>(chk (Int.tdiv z244 2)).bind fun z248=>some z248))


def slices_Clone_Lint_int (n:Nat) (a:List Int):Option ((List Int)):=
  (lim (([]:List Int).length+a.length)).bind fun u16=>some (([]:List Int)++a)


def gauss_Diagram (n:Nat) (c:List (List (Int×Bool))) (a:List Int) (b:Int):Option ((List Int)×(List Int)×Int×Int):=
  (F.gauss_Valid n c a b).bind fun y12=>cond (!y12) (some ([],[],0,1)) ((F.gauss_mates n c a b).bind fun y21=>(F.gauss_genus n y21).bind fun y32=>cond (!(decide (y32=0))) (some ([],[],0,7)) ((F.slices_Clone_Lint_int n a).bind fun y45=>some (y45,y21,b,0)))

def polygon_Project_b0 (n:Nat) (y27:(List (List (Int×Bool)))×Bool):Int×Int→Option ((Int×Int)⊕((Int×Int)))
  | (b,a)=>cond (decide (a<(y27.1.length:Int))) ((get y27.1 a).bind fun x59=>(chk (b+(x59.length:Int))).bind fun z70=>(chk (a+1)).bind fun z72=>some (.inl (z70,z72))) (some (.inr (b,a)))

def polygon_Project (n:Nat) (a:List (List (Int×(Int×Int)))):Option ((List Int)×(List Int)×Int×Int):=
  (F.polygon_valid n a).bind fun y8=>cond (!y8) (some ([],[],0,1)) ((F.polygon_edges n a).bind fun y17=>(F.polygon_cross n y17).bind fun y27=>cond (!y27.2) (some ([],[],0,15)) (((loopN n (F.polygon_Project_b0 n y27) (0,0)).bind fun o47=>match o47 with
    | (b,c)=>cond (decide (128<b)) (some ([],[],0,5)) ((F.polygon_code n a y17 y27.1).bind fun y84=>(F.gauss_Diagram n y84.1 y84.2.1 y84.2.2).bind fun y100=>some (y100.1,y100.2.1,y100.2.2.1,y100.2.2.2)))))


def polygon_Generic (n:Nat) (a:List (List (Int×(Int×Int)))):Option (Bool):=
  (F.polygon_valid n a).bind fun y5=>cond (!y5) (some false) ((F.polygon_edges n a).bind fun y11=>(F.polygon_cross n y11).bind fun y20=>some y20.2)


def law46_awake (n:Nat):Option (Bool):=
  (F.polygon_Project n ([([(0,(0,0)),(10,(10,0)),(10,(0,5)),(0,(10,5))]:List (Int×(Int×Int)))]:List (List (Int×(Int×Int))))).bind fun y16=>cond (decide (y16.2.2.2=0)) (cond (decide ((y16.1.length:Int)=1)) ((get y16.1 0).bind fun x41=>cond (decide (x41=(-1))) (cond (decide (y16.2.2.1=0)) ((F.polygon_Generic n ([([(0,(0,0)),(10,(10,0)),(10,(0,5)),(0,(10,5))]:List (Int×(Int×Int)))]:List (List (Int×(Int×Int))))).bind fun y49=>some y49) (some false)) (some false)) (some false)) (some false)


def ref46_fits (n:Nat) (a:Int) (b:Int) (c:Int):Option (Bool):=
  cond (decide ((-1000)≤a)) (cond (decide (a≤1000)) (cond (decide ((-1000)≤b)) (cond (decide (b≤1000)) (cond (decide ((-1000)≤c)) (some (decide (c≤1000))) (some false)) (some false)) (some false)) (some false)) (some false)


def ref46_turn (n:Nat) (a:Int) (b:Int) (g:Int) (c:Int) (d:Int) (h:Int) (e:Int) (f:Int) (i:Int):Option (Int):=
  (chk (c-a)).bind fun z12=>(chk (f-b)).bind fun z14=>(chk (z12*z14)).bind fun z16=>(chk (d-b)).bind fun z18=>(chk (e-a)).bind fun z20=>(chk (z18*z20)).bind fun z22=>(chk (z16-z22)).bind fun z24=>some z24


def ref46_on (n:Nat) (a:Int) (b:Int) (g:Int) (c:Int) (d:Int) (h:Int) (e:Int) (f:Int) (i:Int):Option (Bool):=
  (F.ref46_turn n c d h e f i a b g).bind fun y12=>cond (decide (y12=0)) (cond (decide ((min c e)≤a)) (cond (decide (a≤(max c e))) (cond (decide ((min d f)≤b)) (some (decide (b≤(max d f)))) (some false)) (some false)) (some false)) (some false)


def ref46_opposite (n:Nat) (a:Int) (b:Int):Option (Bool):=
  cond (decide (a<0)) (cond (decide (0<b)) (some true) (cond (decide (0<a)) (some (decide (b<0))) (some false))) (cond (decide (0<a)) (some (decide (b<0))) (some false))

def ref46_Cross_j0 (n:Nat) (a:Int) (b:Int):Option (Int×Bool):=
  cond (decide (a=b)) (some (2,false)) (some (1,(decide (b<a))))

def ref46_Cross (n:Nat) (e:Int) (f:Int) (a:Int) (g:Int) (h:Int) (c:Int) (i:Int) (j:Int) (b:Int) (k:Int) (l:Int) (d:Int):Option (Int×Bool):=
  (F.ref46_fits n e f a).bind fun y16=>cond (!y16) (some (2,false)) ((F.ref46_fits n g h c).bind fun y22=>cond (!y22) (some (2,false)) ((F.ref46_fits n i j b).bind fun y28=>cond (!y28) (some (2,false)) ((F.ref46_fits n k l d).bind fun y34=>cond (!y34) (some (2,false)) ((F.ref46_on n e f a i j b k l d).bind fun y42=>cond y42 (some (2,false)) ((F.ref46_on n g h c i j b k l d).bind fun y48=>cond y48 (some (2,false)) ((F.ref46_on n i j b e f a g h c).bind fun y54=>cond y54 (some (2,false)) ((F.ref46_on n k l d e f a g h c).bind fun y60=>cond y60 (some (2,false)) ((F.ref46_turn n e f a g h c i j b).bind fun y69=>(F.ref46_turn n e f a g h c k l d).bind fun y73=>(F.ref46_turn n i j b k l d e f a).bind fun y77=>(F.ref46_turn n i j b k l d g h c).bind fun y81=>(F.ref46_opposite n y69 y73).bind fun y88=>cond (!y88) (some (0,false)) ((F.ref46_opposite n y77 y81).bind fun y93=>cond (!y93) (some (0,false)) ((chk (y77-y81)).bind fun z100=>(chk (a*z100)).bind fun z102=>(chk (c-a)).bind fun z104=>(chk (z104*y77)).bind fun z106=>(chk (z102+z106)).bind fun z108=>(chk (y69-y73)).bind fun z110=>(chk (z108*z110)).bind fun z112=>(chk (y69-y73)).bind fun z116=>(chk (b*z116)).bind fun z118=>(chk (d-b)).bind fun z120=>(chk (z120*y69)).bind fun z122=>(chk (z118+z122)).bind fun z124=>(chk (y77-y81)).bind fun z126=>(chk (z124*z126)).bind fun z128=>(chk (y77-y81)).bind fun z133=>(F.ref46_opposite n z133 1).bind fun y135=>(chk (y69-y73)).bind fun z138=>(F.ref46_opposite n z138 1).bind fun y140=>cond (!(y135 == y140)) ((chk (0-z112)).bind fun z144=>(chk (0-z128)).bind fun z146=>F.ref46_Cross_j0 n z144 z146) (F.ref46_Cross_j0 n z112 z128)))))))))))


def law46_few_b0 (n:Nat) (c:List (List (Int×(Int×Int)))):Int×Int→Option ((Int×Int)⊕((Int×Int)))
  | (b,a)=>cond (decide (a<(c.length:Int))) ((get c a).bind fun x18=>(chk (b+(x18.length:Int))).bind fun z29=>(chk (a+1)).bind fun z31=>some (.inl (z29,z31))) (some (.inr (b,a)))

def law46_few (n:Nat) (a:List (List (Int×(Int×Int)))):Option (Bool):=
  ((loopN n (F.law46_few_b0 n a) (0,0)).bind fun o6=>match o6 with
    | (b,c)=>cond (decide ((a.length:Int)≤24)) (some (decide (b≤24))) (some false))

def ref46_Valid_b1 (n:Nat) (c:List (List (Int×(Int×Int)))) (b:Int):Int→Option ((Int)⊕((Int)⊕(Bool)))
  | a=>(get c b).bind fun x57=>cond (decide (a<(x57.length:Int))) ((get c b).bind fun x71=>(get x71 a).bind fun x82=>(F.ref46_fits n x82.1 x82.2.1 x82.2.2).bind fun y96=>cond (!y96) (some (.inr (.inr false))) ((chk (a+1)).bind fun z101=>some (.inl z101))) (some (.inr (.inl a)))

def ref46_Valid_b0 (n:Nat) (b:List (List (Int×(Int×Int)))):Int×Int→Option ((Int×Int)⊕((Int×Int)⊕(Bool)))
  | (c,a)=>cond (decide (a<(b.length:Int))) ((get b a).bind fun x19=>cond (decide ((x19.length:Int)<3)) (some (.inr (.inr false))) ((get b a).bind fun x34=>(chk (c+(x34.length:Int))).bind fun z45=>((loopN n (F.ref46_Valid_b1 n b a) 0).bind fun o48=>match o48 with
    | (.inl d)=>(chk (a+1)).bind fun z105=>some (.inl (z45,z105))
    | (.inr q)=>some (.inr (.inr q))))) (some (.inr (.inl (c,a))))

def ref46_Valid (n:Nat) (b:List (List (Int×(Int×Int)))):Option (Bool):=
  ((loopN n (F.ref46_Valid_b0 n b) (0,0)).bind fun o6=>match o6 with
    | (.inl (a,c))=>some (decide (a≤100))
    | (.inr q)=>some q)


def law46_zero (n:Nat) (a:List Int) (b:List Int) (c:Int):Option (Bool):=
  cond (decide ((a.length:Int)=0)) (cond (decide ((b.length:Int)=0)) (some (decide (c=0))) (some false)) (some false)

def ref46_Edges_b1 (n:Nat) (d:List (List (Int×(Int×Int)))) (b:Int):(List (Int×(Int×((Int×(Int×Int))×(Int×(Int×Int))))))×Int→Option (((List (Int×(Int×((Int×(Int×Int))×(Int×(Int×Int))))))×Int)⊕(((List (Int×(Int×((Int×(Int×Int))×(Int×(Int×Int))))))×Int)))
  | (c,a)=>(get d b).bind fun x28=>cond (decide (a<(x28.length:Int))) ((get d b).bind fun x43=>(get x43 a).bind fun x55=>(get d b).bind fun x70=>(chk (a+1)).bind fun z82=>(get d b).bind fun x84=>(nz (x84.length:Int)).bind fun u96=>(get x70 (Int.tmod z82 (x84.length:Int))).bind fun x98=>(lim (c.length+([(b,(a,((x55.1,(x55.2.1,x55.2.2)),(x98.1,(x98.2.1,x98.2.2)))))]:List (Int×(Int×((Int×(Int×Int))×(Int×(Int×Int)))))).length)).bind fun u119=>(chk (a+1)).bind fun z126=>some (.inl ((c++([(b,(a,((x55.1,(x55.2.1,x55.2.2)),(x98.1,(x98.2.1,x98.2.2)))))]:List (Int×(Int×((Int×(Int×Int))×(Int×(Int×Int))))))),z126))) (some (.inr (c,a)))

def ref46_Edges_b0 (n:Nat) (c:List (List (Int×(Int×Int)))):(List (Int×(Int×((Int×(Int×Int))×(Int×(Int×Int))))))×Int→Option (((List (Int×(Int×((Int×(Int×Int))×(Int×(Int×Int))))))×Int)⊕(((List (Int×(Int×((Int×(Int×Int))×(Int×(Int×Int))))))×Int)))
  | (b,a)=>cond (decide (a<(c.length:Int))) (((loopN n (F.ref46_Edges_b1 n c a) (b,0)).bind fun o19=>match o19 with
    | (d,e)=>(chk (a+1)).bind fun z130=>some (.inl (d,z130)))) (some (.inr (b,a)))

def ref46_Edges (n:Nat) (b:List (List (Int×(Int×Int)))):Option ((List (Int×(Int×((Int×(Int×Int))×(Int×(Int×Int))))))):=
  ((loopN n (F.ref46_Edges_b0 n b) (([]:List (Int×(Int×((Int×(Int×Int))×(Int×(Int×Int)))))),0)).bind fun o7=>match o7 with
    | (a,c)=>some a)


def ref46_flat (n:Nat) (a:Int) (b:Int) (e:Int) (c:Int) (d:Int) (f:Int):Option (Bool):=
  cond (decide (a=c)) (some (decide (b=d))) (some false)


def ref46_adjacent (n:Nat) (e:List (List (Int×(Int×Int)))) (a:Int) (b:Int) (f:Int) (g:Int) (h:Int) (i:Int) (j:Int) (k:Int) (d:Int) (c:Int) (l:Int) (m:Int) (o:Int) (p:Int) (q:Int) (r:Int):Option (Bool):=
  (get e a).bind fun x10=>cond (decide (a=d)) ((chk (b+1)).bind fun z26=>(nz (x10.length:Int)).bind fun u28=>cond (decide ((Int.tmod z26 (x10.length:Int))=c)) (some true) ((chk (c+1)).bind fun z31=>(nz (x10.length:Int)).bind fun u33=>some (decide ((Int.tmod z31 (x10.length:Int))=b)))) (some false)

def ref46_crossers_j1 (n:Nat) (b:List (Int×(Int×((Int×(Int×Int))×(Int×(Int×Int)))))) (e:Int) (c:List Int) (a:Int) (d:Bool):Option (((List Int)×Int)⊕(((List Int)×Int))):=
  cond d ((get b e).bind fun x102=>(get b e).bind fun x137=>(get b a).bind fun x172=>(get b a).bind fun x207=>(F.ref46_Cross n x102.2.2.1.1 x102.2.2.1.2.1 x102.2.2.1.2.2 x137.2.2.2.1 x137.2.2.2.2.1 x137.2.2.2.2.2 x172.2.2.1.1 x172.2.2.1.2.1 x172.2.2.1.2.2 x207.2.2.2.1 x207.2.2.2.2.1 x207.2.2.2.2.2).bind fun y242=>cond (decide (y242.1=1)) ((lim (c.length+([a]:List Int).length)).bind fun u255=>(chk (a+1)).bind fun z262=>some (.inl ((c++([a]:List Int)),z262))) ((chk (a+1)).bind fun z264=>some (.inl (c,z264)))) ((chk (a+1)).bind fun z266=>some (.inl (c,z266)))

def ref46_crossers_b0 (n:Nat) (e:List (List (Int×(Int×Int)))) (b:List (Int×(Int×((Int×(Int×Int))×(Int×(Int×Int)))))) (d:Int):(List Int)×Int→Option (((List Int)×Int)⊕(((List Int)×Int)))
  | (c,a)=>cond (decide (a<(b.length:Int))) (cond (!(decide (a=d))) ((get b d).bind fun x23=>(get b a).bind fun x58=>(F.ref46_adjacent n e x23.1 x23.2.1 x23.2.2.1.1 x23.2.2.1.2.1 x23.2.2.1.2.2 x23.2.2.2.1 x23.2.2.2.2.1 x23.2.2.2.2.2 x58.1 x58.2.1 x58.2.2.1.1 x58.2.2.1.2.1 x58.2.2.1.2.2 x58.2.2.2.1 x58.2.2.2.2.1 x58.2.2.2.2.2).bind fun y93=>F.ref46_crossers_j1 n b d c a (!y93)) (F.ref46_crossers_j1 n b d c a false)) (some (.inr (c,a)))

def ref46_crossers (n:Nat) (c:List (List (Int×(Int×Int)))) (a:List (Int×(Int×((Int×(Int×Int))×(Int×(Int×Int)))))) (d:Int):Option ((List Int)):=
  ((loopN n (F.ref46_crossers_b0 n c a d) (([]:List Int),0)).bind fun o8=>match o8 with
    | (b,e)=>some b)


def ref46_at (n:Nat) (m:Int) (o:Int) (g:Int) (h:Int) (i:Int) (j:Int) (k:Int) (l:Int) (p:Int) (q:Int) (a:Int) (b:Int) (c:Int) (d:Int) (e:Int) (f:Int):Option (Int×Int):=
  (F.ref46_turn n a b c d e f g h i).bind fun y11=>(F.ref46_turn n a b c d e f j k l).bind fun y15=>(chk (y11-y15)).bind fun z22=>cond (decide (z22<0)) ((chk (0-y11)).bind fun z26=>(chk (y15-y11)).bind fun z28=>some (z26,z28)) ((chk (y11-y15)).bind fun z31=>some (y11,z31))

def ref46_Generic_j3 (n:Nat) (c:List (List (Int×(Int×Int)))) (y4:(List (Int×(Int×((Int×(Int×Int))×(Int×(Int×Int))))))) (b:Int) (a:Int) (d:Bool):Option ((Int)⊕((Int)⊕(Bool))):=
  (get y4 b).bind fun x440=>(get y4 a).bind fun x475=>(F.ref46_adjacent n c x440.1 x440.2.1 x440.2.2.1.1 x440.2.2.1.2.1 x440.2.2.1.2.2 x440.2.2.2.1 x440.2.2.2.2.1 x440.2.2.2.2.2 x475.1 x475.2.1 x475.2.2.1.1 x475.2.2.1.2.1 x475.2.2.1.2.2 x475.2.2.2.1 x475.2.2.2.2.1 x475.2.2.2.2.2).bind fun y510=>cond (!y510) ((get y4 b).bind fun x518=>(get y4 b).bind fun x553=>(get y4 a).bind fun x588=>(get y4 a).bind fun x623=>(F.ref46_Cross n x518.2.2.1.1 x518.2.2.1.2.1 x518.2.2.1.2.2 x553.2.2.2.1 x553.2.2.2.2.1 x553.2.2.2.2.2 x588.2.2.1.1 x588.2.2.1.2.1 x588.2.2.1.2.2 x623.2.2.2.1 x623.2.2.2.2.1 x623.2.2.2.2.2).bind fun y658=>cond (decide (y658.1=2)) (some (.inr (.inr false))) ((chk (a+1)).bind fun z666=>some (.inl z666))) ((chk (a+1)).bind fun z668=>some (.inl z668))

def ref46_Generic_j2 (n:Nat) (c:List (List (Int×(Int×Int)))) (y4:(List (Int×(Int×((Int×(Int×Int))×(Int×(Int×Int))))))) (a:Int) (b:Int) (d:Bool):Option ((Int)⊕((Int)⊕(Bool))):=
  cond (!d) ((get y4 b).bind fun x325=>(get y4 a).bind fun x360=>(get y4 a).bind fun x395=>(F.ref46_on n x325.2.2.1.1 x325.2.2.1.2.1 x325.2.2.1.2.2 x360.2.2.1.1 x360.2.2.1.2.1 x360.2.2.1.2.2 x395.2.2.2.1 x395.2.2.2.2.1 x395.2.2.2.2.2).bind fun y430=>cond y430 (some (.inr (.inr false))) (F.ref46_Generic_j3 n c y4 a b y430)) (F.ref46_Generic_j3 n c y4 a b false)

def ref46_Generic_b1 (n:Nat) (c:List (List (Int×(Int×Int)))) (y4:(List (Int×(Int×((Int×(Int×Int))×(Int×(Int×Int))))))) (b:Int):Int→Option ((Int)⊕((Int)⊕(Bool)))
  | a=>cond (decide (a<(y4.length:Int))) (cond (decide (b=a)) ((chk (a+1)).bind fun z41=>some (.inl z41)) ((get y4 b).bind fun x47=>(get y4 a).bind fun x82=>(F.ref46_flat n x47.2.2.1.1 x47.2.2.1.2.1 x47.2.2.1.2.2 x82.2.2.1.1 x82.2.2.1.2.1 x82.2.2.1.2.2).bind fun y117=>cond y117 (some (.inr (.inr false))) ((get y4 b).bind fun x126=>(get y4 a).bind fun x161=>cond (decide (x126.1=x161.1)) ((get y4 b).bind fun x197=>(chk (x197.2.1+1)).bind fun z232=>(get y4 b).bind fun x234=>(get c x234.1).bind fun x269=>(nz (x269.length:Int)).bind fun u281=>(get y4 a).bind fun x283=>F.ref46_Generic_j2 n c y4 b a (decide ((Int.tmod z232 (x269.length:Int))=x283.2.1))) (F.ref46_Generic_j2 n c y4 b a false)))) (some (.inr (.inl a)))

def ref46_Generic_b6 (n:Nat) (y4:(List (Int×(Int×((Int×(Int×Int))×(Int×(Int×Int))))))) (c:Int) (y690:(List Int)) (b:Int):Int→Option ((Int)⊕((Int)⊕(Bool)))
  | a=>cond (decide (a<b)) ((get y4 c).bind fun x727=>(get y690 b).bind fun x762=>(get y4 x762).bind fun x769=>(F.ref46_at n x727.1 x727.2.1 x727.2.2.1.1 x727.2.2.1.2.1 x727.2.2.1.2.2 x727.2.2.2.1 x727.2.2.2.2.1 x727.2.2.2.2.2 x769.1 x769.2.1 x769.2.2.1.1 x769.2.2.1.2.1 x769.2.2.1.2.2 x769.2.2.2.1 x769.2.2.2.2.1 x769.2.2.2.2.2).bind fun y804=>(get y4 c).bind fun x813=>(get y690 a).bind fun x848=>(get y4 x848).bind fun x855=>(F.ref46_at n x813.1 x813.2.1 x813.2.2.1.1 x813.2.2.1.2.1 x813.2.2.1.2.2 x813.2.2.2.1 x813.2.2.2.2.1 x813.2.2.2.2.2 x855.1 x855.2.1 x855.2.2.1.1 x855.2.2.1.2.1 x855.2.2.1.2.2 x855.2.2.2.1 x855.2.2.2.2.1 x855.2.2.2.2.2).bind fun y890=>(chk (y804.1*y890.2)).bind fun z897=>(chk (y890.1*y804.2)).bind fun z899=>cond (decide (z897=z899)) (some (.inr (.inr false))) ((chk (a+1)).bind fun z903=>some (.inl z903))) (some (.inr (.inl a)))

def ref46_Generic_b5 (n:Nat) (y4:(List (Int×(Int×((Int×(Int×Int))×(Int×(Int×Int))))))) (b:Int) (y690:(List Int)):Int→Option ((Int)⊕((Int)⊕(Bool)))
  | a=>cond (decide (a<(y690.length:Int))) (((loopN n (F.ref46_Generic_b6 n y4 b y690 a) 0).bind fun o713=>match o713 with
    | (.inl c)=>(chk (a+1)).bind fun z907=>some (.inl z907)
    | (.inr q)=>some (.inr (.inr q)))) (some (.inr (.inl a)))

def ref46_Generic_b4 (n:Nat) (b:List (List (Int×(Int×Int)))) (y4:(List (Int×(Int×((Int×(Int×Int))×(Int×(Int×Int))))))):Int→Option ((Int)⊕((Int)⊕(Bool)))
  | a=>cond (decide (a<(y4.length:Int))) ((F.ref46_crossers n b y4 a).bind fun y690=>((loopN n (F.ref46_Generic_b5 n y4 a y690) 0).bind fun o701=>match o701 with
    | (.inl c)=>(chk (a+1)).bind fun z911=>some (.inl z911)
    | (.inr q)=>some (.inr (.inr q)))) (some (.inr (.inl a)))

def ref46_Generic_b0 (n:Nat) (b:List (List (Int×(Int×Int)))) (y4:(List (Int×(Int×((Int×(Int×Int))×(Int×(Int×Int))))))):Int→Option ((Int)⊕((Int)⊕(Bool)))
  | a=>cond (decide (a<(y4.length:Int))) (((loopN n (F.ref46_Generic_b1 n b y4 a) 0).bind fun o27=>match o27 with
    | (.inl c)=>(chk (a+1)).bind fun z672=>some (.inl z672)
    | (.inr q)=>some (.inr (.inr q)))) (some (.inr (.inl a)))

def ref46_Generic (n:Nat) (a:List (List (Int×(Int×Int)))):Option (Bool):=
  (F.ref46_Edges n a).bind fun y4=>((loopN n (F.ref46_Generic_b0 n a y4) 0).bind fun o15=>match o15 with
    | (.inl b)=>((loopN n (F.ref46_Generic_b4 n a y4) 0).bind fun o678=>match o678 with
    | (.inl c)=>some true
    | (.inr q)=>some q)
    | (.inr q)=>some q)

def ref46_sorted_b1 (n:Nat) (c:List (Int×(Int×((Int×(Int×Int))×(Int×(Int×Int)))))) (d:Int):Int×(List Int)→Option ((Int×(List Int))⊕((Int×(List Int))))
  | (b,a)=>cond (decide (0<b)) ((get c d).bind fun x42=>(get a b).bind fun x77=>(get c x77).bind fun x84=>(F.ref46_at n x42.1 x42.2.1 x42.2.2.1.1 x42.2.2.1.2.1 x42.2.2.1.2.2 x42.2.2.2.1 x42.2.2.2.2.1 x42.2.2.2.2.2 x84.1 x84.2.1 x84.2.2.1.1 x84.2.2.1.2.1 x84.2.2.1.2.2 x84.2.2.2.1 x84.2.2.2.2.1 x84.2.2.2.2.2).bind fun y119=>(get c d).bind fun x128=>(chk (b-1)).bind fun z163=>(get a z163).bind fun x165=>(get c x165).bind fun x172=>(F.ref46_at n x128.1 x128.2.1 x128.2.2.1.1 x128.2.2.1.2.1 x128.2.2.1.2.2 x128.2.2.2.1 x128.2.2.2.2.1 x128.2.2.2.2.2 x172.1 x172.2.1 x172.2.2.1.1 x172.2.2.1.2.1 x172.2.2.1.2.2 x172.2.2.2.1 x172.2.2.2.2.1 x172.2.2.2.2.2).bind fun y207=>(chk (y119.1*y207.2)).bind fun z214=>(chk (y207.1*y119.2)).bind fun z216=>cond (decide (z214<z216)) ((chk (b-1)).bind fun z221=>(chk (b-1)).bind fun z223=>(get a z223).bind fun x225=>(get a b).bind fun x232=>(get a b).bind fun x239=>(get (a.set b.toNat x225) z221).bind fun x247=>(chk (b-1)).bind fun z254=>some (.inl (z254,((a.set b.toNat x225).set z221.toNat x232)))) ((chk (b-1)).bind fun z256=>some (.inl (z256,a)))) (some (.inr (b,a)))

def ref46_sorted_b0 (n:Nat) (d:List (Int×(Int×((Int×(Int×Int))×(Int×(Int×Int)))))) (e:Int) (y5:(List Int)):Int×(List Int)→Option ((Int×(List Int))⊕((Int×(List Int))))
  | (a,b)=>cond (decide (a<(y5.length:Int))) (((loopN n (F.ref46_sorted_b1 n d e) (a,b)).bind fun o28=>match o28 with
    | (f,c)=>(chk (a+1)).bind fun z260=>some (.inl (z260,c)))) (some (.inr (a,b)))

def ref46_sorted (n:Nat) (d:List (List (Int×(Int×Int)))) (a:List (Int×(Int×((Int×(Int×Int))×(Int×(Int×Int)))))) (c:Int):Option ((List Int)):=
  (F.ref46_crossers n d a c).bind fun y5=>((loopN n (F.ref46_sorted_b0 n a c y5) (1,y5)).bind fun o16=>match o16 with
    | (e,b)=>some b)

def ref46_Project_j2 (n:Nat) (y7:(List (Int×(Int×((Int×(Int×Int))×(Int×(Int×Int))))))) (e:Int) (c:List (Int×Bool)) (d:Int) (x74:Int) (y223:Int×Bool) (f:Bool) (a:List Int) (b:List Int):Option (((List (Int×Bool))×Int×(List Int)×(List Int))⊕(((List (Int×Bool))×Int×(List Int)×(List Int)))):=
  (chk (e*(y7.length:Int))).bind fun z466=>(chk (z466+x74)).bind fun z468=>(get a z468).bind fun x470=>(chk (x470-1)).bind fun z476=>(lim (c.length+([(z476,y223.2)]:List (Int×Bool)).length)).bind fun u484=>(chk (d+1)).bind fun z491=>some (.inl ((c++([(z476,y223.2)]:List (Int×Bool))),z491,a,b))

def ref46_Project_j4 (n:Nat) (y7:(List (Int×(Int×((Int×(Int×Int))×(Int×(Int×Int))))))) (d:Int) (f:List (Int×Bool)) (e:Int) (c:List Int) (a:List Int) (x74:Int) (y223:Int×Bool) (x234:Int) (b:Int) (g:Bool):Option (((List (Int×Bool))×Int×(List Int)×(List Int))⊕(((List (Int×Bool))×Int×(List Int)×(List Int)))):=
  (lim (a.length+([b]:List Int).length)).bind fun u357=>(chk (d*(y7.length:Int))).bind fun z366=>(chk (z366+x74)).bind fun z368=>(get c z368).bind fun x370=>(chk (x74*(y7.length:Int))).bind fun z378=>(chk (z378+d)).bind fun z380=>(get (c.set z368.toNat ((a++([b]:List Int)).length:Int)) z380).bind fun x382=>F.ref46_Project_j2 n y7 d f e x74 y223 (decide (x234=0)) ((c.set z368.toNat ((a++([b]:List Int)).length:Int)).set z380.toNat ((a++([b]:List Int)).length:Int)) (a++([b]:List Int))

def ref46_Project_j3 (n:Nat) (y7:(List (Int×(Int×((Int×(Int×Int))×(Int×(Int×Int))))))) (l:Int) (m:List (Int×Bool)) (k:Int) (b:List Int) (a:List Int) (x74:Int) (y223:Int×Bool) (x234:Int) (w:Bool) (o:Int) (p:Int) (c:Int) (d:Int) (q:Int) (e:Int) (f:Int) (r:Int) (s:Int) (t:Int) (g:Int) (h:Int) (u:Int) (i:Int) (j:Int) (v:Int):Option (((List (Int×Bool))×Int×(List Int)×(List Int))⊕(((List (Int×Bool))×Int×(List Int)×(List Int)))):=
  (chk (e-c)).bind fun z333=>(chk (j-h)).bind fun z335=>(chk (z333*z335)).bind fun z337=>(chk (f-d)).bind fun z339=>(chk (i-g)).bind fun z341=>(chk (z339*z341)).bind fun z343=>(chk (z337-z343)).bind fun z345=>cond (decide (z345<0)) (F.ref46_Project_j4 n y7 l m k b a x74 y223 x234 (-1) (decide (z345<0))) (F.ref46_Project_j4 n y7 l m k b a x74 y223 x234 1 (decide (z345<0)))

def ref46_Project_j5 (n:Nat) (f:Int) (a:List (List (Int×Bool))) (b:Int) (e:List (Int×Bool)) (d:List Int) (c:List Int) (g:Bool):Option (((List (Int×Bool))×Int×(List Int)×(List (List (Int×Bool)))×(List Int)×Int)⊕(((List (Int×Bool))×Int×(List Int)×(List (List (Int×Bool)))×(List Int)×Int))):=
  cond g (cond (decide (0<(e.length:Int))) ((lim (a.length+([e]:List (List (Int×Bool))).length)).bind fun u585=>(chk (f+1)).bind fun z593=>some (.inl (([]:List (Int×Bool)),z593,d,(a++([e]:List (List (Int×Bool)))),c,b))) ((chk (b+1)).bind fun z596=>(chk (f+1)).bind fun z599=>some (.inl (([]:List (Int×Bool)),z599,d,a,c,z596)))) ((chk (f+1)).bind fun z602=>some (.inl (e,z602,d,a,c,b)))

def ref46_Project_b1 (n:Nat) (y7:(List (Int×(Int×((Int×(Int×Int))×(Int×(Int×Int))))))) (d:Int) (y51:(List Int)):(List (Int×Bool))×Int×(List Int)×(List Int)→Option (((List (Int×Bool))×Int×(List Int)×(List Int))⊕(((List (Int×Bool))×Int×(List Int)×(List Int))))
  | (e,c,b,a)=>cond (decide (c<(y51.length:Int))) ((get y51 c).bind fun x74=>(get y7 d).bind fun x83=>(get y7 d).bind fun x118=>(get y7 x74).bind fun x153=>(get y7 x74).bind fun x188=>(F.ref46_Cross n x83.2.2.1.1 x83.2.2.1.2.1 x83.2.2.1.2.2 x118.2.2.2.1 x118.2.2.2.2.1 x118.2.2.2.2.2 x153.2.2.1.1 x153.2.2.1.2.1 x153.2.2.1.2.2 x188.2.2.2.1 x188.2.2.2.2.1 x188.2.2.2.2.2).bind fun y223=>(chk (d*(y7.length:Int))).bind fun z230=>(chk (z230+x74)).bind fun z232=>(get b z232).bind fun x234=>cond (decide (x234=0)) ((get y7 d).bind fun x244=>(get y7 x74).bind fun x279=>cond (!y223.2) (F.ref46_Project_j3 n y7 d e c b a x74 y223 x234 (!y223.2) x279.1 x279.2.1 x279.2.2.1.1 x279.2.2.1.2.1 x279.2.2.1.2.2 x279.2.2.2.1 x279.2.2.2.2.1 x279.2.2.2.2.2 x244.1 x244.2.1 x244.2.2.1.1 x244.2.2.1.2.1 x244.2.2.1.2.2 x244.2.2.2.1 x244.2.2.2.2.1 x244.2.2.2.2.2) (F.ref46_Project_j3 n y7 d e c b a x74 y223 x234 (!y223.2) x244.1 x244.2.1 x244.2.2.1.1 x244.2.2.1.2.1 x244.2.2.1.2.2 x244.2.2.2.1 x244.2.2.2.2.1 x244.2.2.2.2.2 x279.1 x279.2.1 x279.2.2.1.1 x279.2.2.1.2.1 x279.2.2.1.2.2 x279.2.2.2.1 x279.2.2.2.2.1 x279.2.2.2.2.2)) (F.ref46_Project_j2 n y7 d e c x74 y223 (decide (x234=0)) b a)) (some (.inr (e,c,b,a)))

def ref46_Project_b0 (n:Nat) (j:List (List (Int×(Int×Int)))) (y7:(List (Int×(Int×((Int×(Int×Int))×(Int×(Int×Int))))))):(List (Int×Bool))×Int×(List Int)×(List (List (Int×Bool)))×(List Int)×Int→Option (((List (Int×Bool))×Int×(List Int)×(List (List (Int×Bool)))×(List Int)×Int)⊕(((List (Int×Bool))×Int×(List Int)×(List (List (Int×Bool)))×(List Int)×Int)))
  | (h,a,f,b,d,c)=>cond (decide (a<(y7.length:Int))) ((F.ref46_sorted n j y7 a).bind fun y51=>((loopN n (F.ref46_Project_b1 n y7 a y51) (h,0,f,d)).bind fun o62=>match o62 with
    | (i,k,g,e)=>(chk (a+1)).bind fun z498=>cond (decide (z498=(y7.length:Int))) (F.ref46_Project_j5 n a b c i g e true) ((chk (a+1)).bind fun z501=>(get y7 z501).bind fun x503=>(get y7 a).bind fun x538=>F.ref46_Project_j5 n a b c i g e (!(decide (x503.1=x538.1)))))) (some (.inr (h,a,f,b,d,c)))

def ref46_Project (n:Nat) (d:List (List (Int×(Int×Int)))):Option ((List (List (Int×Bool)))×(List Int)×Int):=
  (F.ref46_Edges n d).bind fun y7=>(chk ((y7.length:Int)*(y7.length:Int))).bind fun z18=>(pos z18).bind fun u20=>((loopN n (F.ref46_Project_b0 n d y7) (([]:List (Int×Bool)),0,(List.replicate z18.toNat (0:Int)),([]:List (List (Int×Bool))),([]:List Int),0)).bind fun o39=>match o39 with
    | (f,g,e,a,b,c)=>some (a,b,c))


def ref02_ends (n:Nat) (b:List Int) (a:Int) (c:Bool):Option (Int×Int):=
  (chk (4*a)).bind fun z7=>cond (!c) ((chk (z7+2)).bind fun z14=>some (z14,z7)) ((get b a).bind fun x18=>cond (decide (x18=1)) ((chk (z7+1)).bind fun z26=>(chk (z7+3)).bind fun z28=>some (z26,z28)) ((chk (z7+3)).bind fun z31=>(chk (z7+1)).bind fun z33=>some (z31,z33)))

def ref02_Diagram_b2 (n:Nat) (c:List Int) (x249:List (Int×Bool)):Int×(List Int)→Option ((Int×(List Int))⊕((Int×(List Int))))
  | (b,a)=>cond (decide (b<(x249.length:Int))) ((get x249 b).bind fun x276=>(F.ref02_ends n c x276.1 x276.2).bind fun y287=>(chk (b+1)).bind fun z296=>(nz (x249.length:Int)).bind fun u298=>(get x249 (Int.tmod z296 (x249.length:Int))).bind fun x300=>(F.ref02_ends n c x300.1 x300.2).bind fun y311=>(get a y287.1).bind fun x318=>(get (a.set y287.1.toNat y311.2) y311.2).bind fun x325=>(chk (b+1)).bind fun z332=>some (.inl (z332,((a.set y287.1.toNat y311.2).set y311.2.toNat y287.1)))) (some (.inr (b,a)))

def ref02_Diagram_b1 (n:Nat) (d:List (List (Int×Bool))) (e:List Int):Int×(List Int)→Option ((Int×(List Int))⊕((Int×(List Int))))
  | (b,a)=>cond (decide (b<(d.length:Int))) ((get d b).bind fun x249=>((loopN n (F.ref02_Diagram_b2 n e x249) (0,a)).bind fun o262=>match o262 with
    | (f,c)=>(chk (b+1)).bind fun z336=>some (.inl (z336,c)))) (some (.inr (b,a)))

def ref02_Diagram_j0 (n:Nat) (d:List (List (Int×Bool))) (e:List Int) (f:Int) (b:List Int) (c:List Int):Option ((List Int)×(List Int)×Int):=
  ((loopN n (F.ref02_Diagram_b1 n d e) (0,c)).bind fun o237=>match o237 with
    | (g,a)=>some (b,a,f))

def ref02_Diagram (n:Nat) (b:List (List (Int×Bool))) (a:List Int) (c:Int):Option ((List Int)×(List Int)×Int):=
  (chk (4*(a.length:Int))).bind fun z13=>(lim (([]:List Int).length+a.length)).bind fun u21=>(pos z13).bind fun u28=>F.ref02_Diagram_j0 n b a c (([]:List Int)++a) (List.replicate z13.toNat (0:Int))

def ref01_Ints_b0 (n:Nat) (b:List Int) (c:List Int):Int→Option ((Int)⊕((Int)⊕(Bool)))
  | a=>cond (decide (a<(b.length:Int))) ((get b a).bind fun x24=>(get c a).bind fun x31=>cond (!(decide (x24=x31))) (some (.inr (.inr false))) ((chk (a+1)).bind fun z40=>some (.inl z40))) (some (.inr (.inl a)))

def ref01_Ints (n:Nat) (a:List Int) (b:List Int):Option (Bool):=
  cond (!(decide ((a.length:Int)=(b.length:Int)))) (some false) (((loopN n (F.ref01_Ints_b0 n a b) 0).bind fun o10=>match o10 with
    | (.inl c)=>some true
    | (.inr q)=>some q))


def ref01_Equal (n:Nat) (a:List Int) (b:List Int) (c:Int) (d:List Int) (e:List Int) (f:Int):Option (Bool):=
  (F.ref01_Ints n a d).bind fun y13=>cond y13 ((F.ref01_Ints n b e).bind fun y17=>cond y17 (some (decide (c=f))) (some false)) (some false)


def law46_PolygonProjects (n:Nat) (a:List (List (Int×(Int×Int)))):Option (Bool):=
  (F.law46_awake n).bind fun y5=>cond (!y5) ((F.law46_awake n).bind fun y10=>some y10) ((F.law46_few n a).bind fun y13=>cond (!y13) ((F.law46_awake n).bind fun y18=>some y18) ((F.polygon_Project n a).bind fun y22=>(F.ref46_Valid n a).bind fun y46=>cond (!y46) (cond (decide (y22.2.2.2=1)) ((F.law46_zero n y22.1 y22.2.1 y22.2.2.1).bind fun y52=>cond y52 ((F.polygon_Generic n a).bind fun y56=>some (!y56)) (some false)) (some false)) ((F.polygon_Generic n a).bind fun y61=>(F.ref46_Generic n a).bind fun y64=>cond (!(y61 == y64)) (some false) ((F.ref46_Generic n a).bind fun y71=>cond (!y71) (cond (decide (y22.2.2.2=15)) ((F.law46_zero n y22.1 y22.2.1 y22.2.2.1).bind fun y78=>some y78) (some false)) ((F.ref46_Project n a).bind fun y82=>cond (decide (64<(y82.2.1.length:Int))) (cond (decide (y22.2.2.2=5)) ((F.law46_zero n y22.1 y22.2.1 y22.2.2.1).bind fun y107=>some y107) (some false)) (cond (decide (y22.2.2.2=0)) ((F.ref02_Diagram n y82.1 y82.2.1 y82.2.2).bind fun y114=>(F.ref01_Equal n y22.1 y22.2.1 y22.2.2.1 y114.1 y114.2.1 y114.2.2).bind fun y130=>some y130) (some false)))))))

end F
end Go.Proofs.Yteajmbanlohncaa
