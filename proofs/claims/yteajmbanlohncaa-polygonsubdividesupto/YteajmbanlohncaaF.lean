import Derived.Test.YteajmbanlohncaaRun
import Derived.Test.YteajmbanlohncaaShort
import Derived.Test.YteajmbanlohncaaCall
import Derived.Test.YteajmbanlohncaaNest
import Derived.Test.YteajmbanlohncaaSort
import Derived.Test.YteajmbanlohncaaSortK
import Derived.Test.YteajmbanlohncaaArr
import Derived.Test.YteajmbanlohncaaRow
import Derived.Test.YteajmbanlohncaaMap
import Derived.Test.YteajmbanlohncaaCut
import Derived.Test.YteajmbanlohncaaElem
import Derived.Test.YteajmbanlohncaaNil
import Derived.Test.YteajmbanlohncaaView
import Derived.Test.YteajmbanlohncaaInsP
import Derived.Test.YteajmbanlohncaaAlt
set_option linter.unusedVariables false
set_option linter.unusedSimpArgs false
namespace Go.Proofs.Yteajmbanlohncaa
open Ev
namespace F
def polygon_within_b0 (n:Nat) (b:Int) (c:Int) (d:Int):Int→Option ((Int)⊕((Int)⊕(Bool)))
  | a=>cond (decide (a<3)) ((get ([b,c,d]:List Int) a).bind fun x20=>cond (decide (x20<(-1000))) (some (.inr (.inr false))) (cond (decide (1000<x20)) (some (.inr (.inr false))) ((chk (a+1)).bind fun z28=>some (.inl z28)))) (some (.inr (.inl a)))

def polygon_within (n:Nat) (a:Int) (b:Int) (c:Int):Option (Bool):=
  ((loopN n (F.polygon_within_b0 n a b c) 0).bind fun o8=>match o8 with
    | (.inl d)=>some true
    | (.inr q)=>some q)

def polygon_valid_b1 (n:Nat) (x18:List (Int×(Int×Int))):Int→Option ((Int)⊕((Int)⊕(Bool)))
  | a=>cond (decide (a<(x18.length:Int))) ((get x18 a).bind fun x52=>(F.polygon_within n x52.1 x52.2.1 x52.2.2).bind fun y71=>cond (!y71) (some (.inr (.inr false))) ((chk (a+1)).bind fun z76=>some (.inl z76))) (some (.inr (.inl a)))

def polygon_valid_b0 (n:Nat) (c:List (List (Int×(Int×Int)))):Int×Int→Option ((Int×Int)⊕((Int×Int)⊕(Bool)))
  | (b,a)=>cond (decide (a<(c.length:Int))) ((get c a).bind fun x18=>(chk (b+(x18.length:Int))).bind fun z30=>cond (decide ((x18.length:Int)<3)) (some (.inr (.inr false))) (cond (decide (100<z30)) (some (.inr (.inr false))) (((loopN n (F.polygon_valid_b1 n x18) 0).bind fun o40=>match o40 with
    | (.inl d)=>(chk (a+1)).bind fun z80=>some (.inl (z30,z80))
    | (.inr q)=>some (.inr (.inr q)))))) (some (.inr (.inl (b,a))))

def polygon_valid (n:Nat) (a:List (List (Int×(Int×Int)))):Option (Bool):=
  ((loopN n (F.polygon_valid_b0 n a) (0,0)).bind fun o6=>match o6 with
    | (.inl (c,b))=>some true
    | (.inr q)=>some q)

def polygon_edges_b1 (n:Nat) (c:List ((Int×(Int×Int))×((Int×(Int×Int))×(Int×Int)))) (x19:List (Int×(Int×Int))):(List ((Int×(Int×Int))×((Int×(Int×Int))×(Int×Int))))×Int→Option (((List ((Int×(Int×Int))×((Int×(Int×Int))×(Int×Int))))×Int)⊕(((List ((Int×(Int×Int))×((Int×(Int×Int))×(Int×Int))))×Int)))
  | (b,a)=>cond (decide (a<(x19.length:Int))) ((get x19 a).bind fun x45=>(chk (a+1)).bind fun z64=>(nz (x19.length:Int)).bind fun u66=>(get x19 (Int.tmod z64 (x19.length:Int))).bind fun x71=>(chk ((c.length:Int)+a)).bind fun z86=>(chk ((c.length:Int)+(Int.tmod z64 (x19.length:Int)))).bind fun z88=>(lim (b.length+([((x45.1,(x45.2.1,x45.2.2)),((x71.1,(x71.2.1,x71.2.2)),(z86,z88)))]:List ((Int×(Int×Int))×((Int×(Int×Int))×(Int×Int)))).length)).bind fun u96=>(chk (a+1)).bind fun z103=>some (.inl ((b++([((x45.1,(x45.2.1,x45.2.2)),((x71.1,(x71.2.1,x71.2.2)),(z86,z88)))]:List ((Int×(Int×Int))×((Int×(Int×Int))×(Int×Int))))),z103))) (some (.inr (b,a)))

def polygon_edges_b0 (n:Nat) (c:List (List (Int×(Int×Int)))):(List ((Int×(Int×Int))×((Int×(Int×Int))×(Int×Int))))×Int→Option (((List ((Int×(Int×Int))×((Int×(Int×Int))×(Int×Int))))×Int)⊕(((List ((Int×(Int×Int))×((Int×(Int×Int))×(Int×Int))))×Int)))
  | (b,a)=>cond (decide (a<(c.length:Int))) ((get c a).bind fun x19=>((loopN n (F.polygon_edges_b1 n b x19) (b,0)).bind fun o33=>match o33 with
    | (d,e)=>(chk (a+1)).bind fun z107=>some (.inl (d,z107)))) (some (.inr (b,a)))

def polygon_edges (n:Nat) (b:List (List (Int×(Int×Int)))):Option ((List ((Int×(Int×Int))×((Int×(Int×Int))×(Int×Int))))):=
  ((loopN n (F.polygon_edges_b0 n b) (([]:List ((Int×(Int×Int))×((Int×(Int×Int))×(Int×Int)))),0)).bind fun o7=>match o7 with
    | (a,c)=>some a)


def polygon_turn (n:Nat) (a:Int) (b:Int) (g:Int) (c:Int) (d:Int) (h:Int) (e:Int) (f:Int) (i:Int):Option (Int):=
  (chk (c-a)).bind fun z12=>(chk (f-b)).bind fun z14=>(chk (z12*z14)).bind fun z16=>(chk (d-b)).bind fun z18=>(chk (e-a)).bind fun z20=>(chk (z18*z20)).bind fun z22=>(chk (z16-z22)).bind fun z24=>some z24


def polygon_on (n:Nat) (a:Int) (b:Int) (g:Int) (c:Int) (d:Int) (h:Int) (e:Int) (f:Int) (i:Int):Option (Bool):=
  (F.polygon_turn n a b g c d h e f i).bind fun y12=>cond (decide (y12=0)) (cond (decide ((min a c)≤e)) (cond (decide (e≤(max a c))) (cond (decide ((min b d)≤f)) (some (decide (f≤(max b d)))) (some false)) (some false)) (some false)) (some false)


def polygon_opposite (n:Nat) (a:Int) (b:Int):Option (Bool):=
  cond (decide (a<0)) (cond (decide (0<b)) (some true) (cond (decide (0<a)) (some (decide (b<0))) (some false))) (cond (decide (0<a)) (some (decide (b<0))) (some false))

def polygon_Cross_j3 (n:Nat) (a:Int) (b:Int) (c:Int) (d:Int):Option (Int×Bool):=
  (chk (b*c)).bind fun z152=>(chk (d*a)).bind fun z154=>cond (decide (z152=z154)) (some (2,false)) ((chk (b*c)).bind fun z159=>(chk (d*a)).bind fun z161=>some (1,(decide (z161<z159))))

def polygon_Cross_j2 (n:Nat) (z114:Int) (z129:Int) (a:Int) (b:Int):Option (Int×Bool):=
  cond (decide (z114<0)) ((chk (-z114)).bind fun z144=>(chk (-z129)).bind fun z146=>F.polygon_Cross_j3 n a b z144 z146) (F.polygon_Cross_j3 n a b z114 z129)

def polygon_Cross_j1 (n:Nat) (e:Int) (f:Int) (a:Int) (g:Int) (h:Int) (b:Int) (i:Int) (j:Int) (c:Int) (k:Int) (l:Int) (d:Int) (y51:Int) (y55:Int) (y63:Int) (y67:Int) (m:Bool):Option (Int×Bool):=
  cond m ((F.polygon_on n e f a g h b i j c).bind fun y86=>cond y86 (some (2,false)) ((F.polygon_on n e f a g h b k l d).bind fun y92=>cond y92 (some (2,false)) ((F.polygon_on n i j c k l d e f a).bind fun y98=>cond y98 (some (2,false)) ((F.polygon_on n i j c k l d g h b).bind fun y104=>cond y104 (some (2,false)) (some (0,false)))))) ((chk (y63-y67)).bind fun z112=>(chk (y51-y55)).bind fun z114=>(chk (b*y63)).bind fun z119=>(chk (a*y67)).bind fun z121=>(chk (z119-z121)).bind fun z123=>(chk (d*y51)).bind fun z125=>(chk (c*y55)).bind fun z127=>(chk (z125-z127)).bind fun z129=>cond (decide (z112<0)) ((chk (-z112)).bind fun z135=>(chk (-z123)).bind fun z137=>F.polygon_Cross_j2 n z114 z129 z135 z137) (F.polygon_Cross_j2 n z114 z129 z112 z123))

def polygon_Cross_b0 (n:Nat) (b:Int) (c:Int) (d:Int) (e:Int) (f:Int) (g:Int) (h:Int) (i:Int) (j:Int) (k:Int) (l:Int) (m:Int):Int→Option ((Int)⊕((Int)⊕(Int×Bool)))
  | a=>cond (decide (a<4)) ((get ([(b,(c,d)),(e,(f,g)),(h,(i,j)),(k,(l,m))]:List (Int×(Int×Int))) a).bind fun x29=>(F.polygon_within n x29.1 x29.2.1 x29.2.2).bind fun y39=>cond (!y39) (some (.inr (.inr (2,false)))) ((chk (a+1)).bind fun z44=>some (.inl z44))) (some (.inr (.inl a)))

def polygon_Cross (n:Nat) (a:Int) (b:Int) (c:Int) (d:Int) (e:Int) (f:Int) (g:Int) (h:Int) (i:Int) (j:Int) (k:Int) (l:Int):Option (Int×Bool):=
  ((loopN n (F.polygon_Cross_b0 n a b c d e f g h i j k l) 0).bind fun o17=>match o17 with
    | (.inl m)=>(F.polygon_turn n a b c d e f g h i).bind fun y51=>(F.polygon_turn n a b c d e f j k l).bind fun y55=>(F.polygon_turn n g h i j k l a b c).bind fun y63=>(F.polygon_turn n g h i j k l d e f).bind fun y67=>(F.polygon_opposite n y51 y55).bind fun y74=>cond (!y74) (F.polygon_Cross_j1 n a b c d e f g h i j k l y51 y55 y63 y67 true) ((F.polygon_opposite n y63 y67).bind fun y78=>F.polygon_Cross_j1 n a b c d e f g h i j k l y51 y55 y63 y67 (!y78))
    | (.inr q)=>some q)


def polygon_cross_c1 (n:Nat) (a:Int) (i:Bool) (b:List ((Int×(Int×Int))×((Int×(Int×Int))×(Int×Int)))) (c:Int) (d:Int) (e:Int) (f:Int) (g:Int) (h:Int) (j:Int) (k:Int):Option (Int×Int):=
  (get b a).bind fun x9=>(F.polygon_turn n x9.1.1 x9.1.2.1 x9.1.2.2 x9.2.1.1 x9.2.1.2.1 x9.2.1.2.2 c d e).bind fun y50=>(F.polygon_turn n x9.1.1 x9.1.2.1 x9.1.2.2 x9.2.1.1 x9.2.1.2.1 x9.2.1.2.2 f g h).bind fun y54=>(chk (-y50)).bind fun z60=>(chk (y50-y54)).bind fun z62=>(chk (y54-y50)).bind fun z64=>some ((max y50 z60),(max z62 z64))


def polygon_cross_c2 (n:Nat) (j:Int) (k:Bool) (l:Int) (m:Bool) (a:List ((Int×(Int×Int))×((Int×(Int×Int))×(Int×Int)))) (b:Int) (c:Int) (d:Int) (e:Int) (f:Int) (g:Int) (h:Int) (i:Int):Option (Int):=
  (F.polygon_cross_c1 n j k a b c d e f g h i).bind fun y13=>(F.polygon_cross_c1 n l m a b c d e f g h i).bind fun y20=>(chk (y13.1*y20.2)).bind fun z26=>(chk (y20.1*y13.2)).bind fun z28=>(chk (z26-z28)).bind fun z30=>some z30

def slices_SortFunc_passage_passage_polygon_cross_c2 (n:Nat) (j:List (Int×Bool)) (a:List ((Int×(Int×Int))×((Int×(Int×Int))×(Int×Int)))) (b:Int) (c:Int) (d:Int) (e:Int) (f:Int) (g:Int) (h:Int) (i:Int):Option (List (Int×Bool)):=if (j.all fun x=>j.all fun y=>(polygon_cross_c2 n x.1 x.2 y.1 y.2 a b c d e f g h i).isSome)=true∧swoL (fun x y:(Int×Bool)=>(polygon_cross_c2 n x.1 x.2 y.1 y.2 a b c d e f g h i).getD 0) j=true∧j.length≤1099511627776 then some (sortL (fun x y:(Int×Bool)=>(polygon_cross_c2 n x.1 x.2 y.1 y.2 a b c d e f g h i).getD 0) j) else none

def polygon_cross_j3 (n:Nat) (c:Int) (x30:(Int×(Int×Int))×((Int×(Int×Int))×(Int×Int))) (b:Int) (a:List (List (Int×Bool))) (x82:(Int×(Int×Int))×((Int×(Int×Int))×(Int×Int))) (d:Bool):Option ((Int×(List (List (Int×Bool))))⊕((Int×(List (List (Int×Bool))))⊕((List (List (Int×Bool)))×Bool))):=
  cond (decide (x82.2.2.1=x30.2.2.2)) ((chk (b+1)).bind fun z150=>some (.inl (z150,a))) (cond (decide (x82.2.2.2=x30.2.2.1)) ((chk (b+1)).bind fun z153=>some (.inl (z153,a))) ((F.polygon_Cross n x30.1.1 x30.1.2.1 x30.1.2.2 x30.2.1.1 x30.2.1.2.1 x30.2.1.2.2 x82.1.1 x82.1.2.1 x82.1.2.2 x82.2.1.1 x82.2.1.2.1 x82.2.1.2.2).bind fun y157=>cond (decide (y157.1=2)) (some (.inr (.inr ([],false)))) (cond (decide (y157.1=1)) ((get a c).bind fun x169=>(lim (x169.length+([(b,y157.2)]:List (Int×Bool)).length)).bind fun u189=>(get a c).bind fun x196=>(chk (b+1)).bind fun z206=>some (.inl (z206,(a.set c.toNat (x169++([(b,y157.2)]:List (Int×Bool))))))) ((chk (b+1)).bind fun z208=>some (.inl (z208,a))))))

def polygon_cross_j2 (n:Nat) (b:Int) (x30:(Int×(Int×Int))×((Int×(Int×Int))×(Int×Int))) (c:Int) (a:List (List (Int×Bool))) (x82:(Int×(Int×Int))×((Int×(Int×Int))×(Int×Int))) (d:Bool):Option ((Int×(List (List (Int×Bool))))⊕((Int×(List (List (Int×Bool))))⊕((List (List (Int×Bool)))×Bool))):=
  cond (!(decide (x82.2.2.1=x30.2.2.2))) ((F.polygon_on n x30.1.1 x30.1.2.1 x30.1.2.2 x30.2.1.1 x30.2.1.2.1 x30.2.1.2.2 x82.1.1 x82.1.2.1 x82.1.2.2).bind fun y138=>cond y138 (some (.inr (.inr ([],false)))) (F.polygon_cross_j3 n b x30 c a x82 y138)) (F.polygon_cross_j3 n b x30 c a x82 false)

def polygon_cross_b4 (n:Nat) (d:List ((Int×(Int×Int))×((Int×(Int×Int))×(Int×Int)))) (a:Int) (x30:(Int×(Int×Int))×((Int×(Int×Int))×(Int×Int))) (c:List (List (Int×Bool))) (y233:List (Int×Bool)):Int→Option ((Int)⊕((Int)⊕((List (List (Int×Bool)))×Bool)))
  | b=>(get (c.set a.toNat y233) a).bind fun x248=>cond (decide (b<(x248.length:Int))) ((get (c.set a.toNat y233) a).bind fun x267=>(chk (b-1)).bind fun z276=>(get x248 z276).bind fun x278=>(get (c.set a.toNat y233) a).bind fun x289=>(get x248 b).bind fun x298=>(F.polygon_cross_c2 n x278.1 x278.2 x298.1 x298.2 d x30.1.1 x30.1.2.1 x30.1.2.2 x30.2.1.1 x30.2.1.2.1 x30.2.1.2.2 x30.2.2.1 x30.2.2.2).bind fun y309=>cond (decide (y309=0)) (some (.inr (.inr ([],false)))) ((chk (b+1)).bind fun z318=>some (.inl z318))) (some (.inr (.inl b)))

def polygon_cross_b1 (n:Nat) (d:List ((Int×(Int×Int))×((Int×(Int×Int))×(Int×Int)))) (c:Int) (x30:(Int×(Int×Int))×((Int×(Int×Int))×(Int×Int))):Int×(List (List (Int×Bool)))→Option ((Int×(List (List (Int×Bool))))⊕((Int×(List (List (Int×Bool))))⊕((List (List (Int×Bool)))×Bool)))
  | (a,b)=>cond (decide (a<(d.length:Int))) ((get d a).bind fun x82=>cond (decide (a=c)) ((chk (a+1)).bind fun z123=>some (.inl (z123,b))) (cond (decide (x30.1.1=x82.1.1)) (cond (decide (x30.1.2.1=x82.1.2.1)) (some (.inr (.inr ([],false)))) (F.polygon_cross_j2 n c x30 a b x82 (decide (x30.1.2.1=x82.1.2.1)))) (F.polygon_cross_j2 n c x30 a b x82 false))) (some (.inr (.inl (a,b))))

def polygon_cross_b0 (n:Nat) (b:List ((Int×(Int×Int))×((Int×(Int×Int))×(Int×Int)))):Int×(List (List (Int×Bool)))→Option ((Int×(List (List (Int×Bool))))⊕((Int×(List (List (Int×Bool))))⊕((List (List (Int×Bool)))×Bool)))
  | (a,d)=>cond (decide (a<(b.length:Int))) ((get b a).bind fun x30=>((loopN n (F.polygon_cross_b1 n b a x30) (0,d)).bind fun o70=>match o70 with
    | (.inl (e,c))=>(get c a).bind fun x219=>(F.slices_SortFunc_passage_passage_polygon_cross_c2 n x219 b x30.1.1 x30.1.2.1 x30.1.2.2 x30.2.1.1 x30.2.1.2.1 x30.2.1.2.2 x30.2.2.1 x30.2.2.2).bind fun y233=>((loopN n (F.polygon_cross_b4 n b a x30 c y233) 1).bind fun o239=>match o239 with
    | (.inl f)=>(chk (a+1)).bind fun z322=>some (.inl (z322,(c.set a.toNat y233)))
    | (.inr q)=>some (.inr (.inr q)))
    | (.inr q)=>some (.inr (.inr q)))) (some (.inr (.inl (a,d))))

def polygon_cross (n:Nat) (a:List ((Int×(Int×Int))×((Int×(Int×Int))×(Int×Int)))):Option ((List (List (Int×Bool)))×Bool):=
  (pos (a.length:Int)).bind fun u7=>((loopN n (F.polygon_cross_b0 n a) (0,(List.replicate (a.length:Int).toNat ([]:List (Int×Bool))))).bind fun o18=>match o18 with
    | (.inl (c,b))=>some (b,true)
    | (.inr q)=>some q)


def polygon_sign (n:Nat) (e:Int) (f:Int) (m:Int) (g:Int) (h:Int) (o:Int) (p:Int) (q:Int) (a:Int) (b:Int) (i:Int) (c:Int) (d:Int) (j:Int) (k:Int) (l:Int):Option (Int):=
  (chk (g-e)).bind fun z11=>(chk (h-f)).bind fun z13=>(chk (d-b)).bind fun z18=>(chk (z11*z18)).bind fun z20=>(chk (c-a)).bind fun z22=>(chk (z13*z22)).bind fun z24=>(chk (z20-z24)).bind fun z26=>cond (decide (0<z26)) (some 1) (some (-1))

def polygon_code_j3 (n:Nat) (b:List (Int×Bool)) (e:Int) (x86:Int×Bool) (c:Int) (f:Bool) (a:List Int) (d:List ((Int×Int)×Int)):Option (((List (Int×Bool))×Int×(List Int)×(List ((Int×Int)×Int)))⊕(((List (Int×Bool))×Int×(List Int)×(List ((Int×Int)×Int))))):=
  (lim (b.length+([(c,x86.2)]:List (Int×Bool)).length)).bind fun u307=>(chk (e+1)).bind fun z314=>some (.inl ((b++([(c,x86.2)]:List (Int×Bool))),z314,a,d))

def polygon_code_b2 (n:Nat) (f:List ((Int×(Int×Int))×((Int×(Int×Int))×(Int×Int)))) (a:Int) (x62:List (Int×Bool)):(List (Int×Bool))×Int×(List Int)×(List ((Int×Int)×Int))→Option (((List (Int×Bool))×Int×(List Int)×(List ((Int×Int)×Int)))⊕(((List (Int×Bool))×Int×(List Int)×(List ((Int×Int)×Int)))))
  | (e,d,b,c)=>cond (decide (d<(x62.length:Int))) ((get x62 d).bind fun x86=>(chk ((mget c ((min a x86.1),(max a x86.1))).getD 0)).bind fun z107=>cond (!(mget c ((min a x86.1),(max a x86.1))).isSome) ((nok (mget c ((min a x86.1),(max a x86.1)))).bind fun u115=>(get f a).bind fun x121=>(get f x86.1).bind fun x156=>cond (!x86.2) ((F.polygon_sign n x156.1.1 x156.1.2.1 x156.1.2.2 x156.2.1.1 x156.2.1.2.1 x156.2.1.2.2 x156.2.2.1 x156.2.2.2 x121.1.1 x121.1.2.1 x121.1.2.2 x121.2.1.1 x121.2.1.2.1 x121.2.1.2.2 x121.2.2.1 x121.2.2.2).bind fun y207=>(lim (b.length+([y207]:List Int).length)).bind fun u217=>F.polygon_code_j3 n e d x86 (b.length:Int) (!(mget c ((min a x86.1),(max a x86.1))).isSome) (b++([y207]:List Int)) (c++[(((min a x86.1),(max a x86.1)),(b.length:Int))])) ((F.polygon_sign n x121.1.1 x121.1.2.1 x121.1.2.2 x121.2.1.1 x121.2.1.2.1 x121.2.1.2.2 x121.2.2.1 x121.2.2.2 x156.1.1 x156.1.2.1 x156.1.2.2 x156.2.1.1 x156.2.1.2.1 x156.2.1.2.2 x156.2.2.1 x156.2.2.2).bind fun y227=>(lim (b.length+([y227]:List Int).length)).bind fun u237=>F.polygon_code_j3 n e d x86 (b.length:Int) (!(mget c ((min a x86.1),(max a x86.1))).isSome) (b++([y227]:List Int)) (c++[(((min a x86.1),(max a x86.1)),(b.length:Int))]))) (F.polygon_code_j3 n e d x86 z107 (!(mget c ((min a x86.1),(max a x86.1))).isSome) b c)) (some (.inr (e,d,b,c)))

def polygon_code_b1 (n:Nat) (g:List ((Int×(Int×Int))×((Int×(Int×Int))×(Int×Int)))) (c:List (List (Int×Bool))) (j:Int) (x33:List (Int×(Int×Int))):(List (Int×Bool))×Int×(List Int)×(List ((Int×Int)×Int))→Option (((List (Int×Bool))×Int×(List Int)×(List ((Int×Int)×Int)))⊕(((List (Int×Bool))×Int×(List Int)×(List ((Int×Int)×Int)))))
  | (f,a,b,d)=>(chk (j+(x33.length:Int))).bind fun z57=>cond (decide (a<z57)) ((get c a).bind fun x62=>((loopN n (F.polygon_code_b2 n g a x62) (f,0,b,d)).bind fun o74=>match o74 with
    | (i,k,e,h)=>(chk (a+1)).bind fun z318=>some (.inl (i,z318,e,h)))) (some (.inr (f,a,b,d)))

def polygon_code_b0 (n:Nat) (l:List (List (Int×(Int×Int)))) (k:List ((Int×(Int×Int))×((Int×(Int×Int))×(Int×Int)))) (f:List (List (Int×Bool))):Int×Int×(List (List (Int×Bool)))×(List Int)×Int×(List ((Int×Int)×Int))→Option ((Int×Int×(List (List (Int×Bool)))×(List Int)×Int×(List ((Int×Int)×Int)))⊕((Int×Int×(List (List (Int×Bool)))×(List Int)×Int×(List ((Int×Int)×Int)))))
  | (g,c,a,d,b,i)=>cond (decide (c<(l.length:Int))) ((get l c).bind fun x33=>((loopN n (F.polygon_code_b1 n k f g x33) (([]:List (Int×Bool)),g,d,i)).bind fun o48=>match o48 with
    | (h,m,e,j)=>(chk (g+(x33.length:Int))).bind fun z323=>cond (decide (0<(h.length:Int))) ((lim (a.length+([h]:List (List (Int×Bool))).length)).bind fun u333=>(chk (c+1)).bind fun z341=>some (.inl (z323,z341,(a++([h]:List (List (Int×Bool)))),e,b,j))) ((chk (b+1)).bind fun z343=>(chk (c+1)).bind fun z346=>some (.inl (z323,z346,a,e,z343,j))))) (some (.inr (g,c,a,d,b,i)))

def polygon_code (n:Nat) (f:List (List (Int×(Int×Int)))) (e:List ((Int×(Int×Int))×((Int×(Int×Int))×(Int×Int)))) (a:List (List (Int×Bool))):Option ((List (List (Int×Bool)))×(List Int)×Int):=
  ((loopN n (F.polygon_code_b0 n f e a) (0,0,([]:List (List (Int×Bool))),([]:List Int),0,([]:List ((Int×Int)×Int)))).bind fun o21=>match o21 with
    | (i,h,b,c,d,g)=>some (b,c,d))

def gauss_Valid_b2 (n:Nat) (e:List Int) (x81:List (Int×Bool)):Int×Int×(List Bool)×(List Bool)→Option ((Int×Int×(List Bool)×(List Bool))⊕((Int×Int×(List Bool)×(List Bool))⊕(Bool)))
  | (d,c,a,b)=>cond (decide (c<(x81.length:Int))) ((get x81 c).bind fun x110=>cond (decide (x110.1<0)) (some (.inr (.inr false))) (cond (decide ((e.length:Int)≤x110.1)) (some (.inr (.inr false))) (cond x110.2 ((get a x110.1).bind fun x137=>cond x137 (some (.inr (.inr false))) ((get a x110.1).bind fun x147=>(chk (d+1)).bind fun z154=>(chk (c+1)).bind fun z156=>some (.inl (z154,z156,(a.set x110.1.toNat true),b)))) ((get b x110.1).bind fun x160=>cond x160 (some (.inr (.inr false))) ((get b x110.1).bind fun x169=>(chk (d+1)).bind fun z176=>(chk (c+1)).bind fun z178=>some (.inl (z176,z178,a,(b.set x110.1.toNat true)))))))) (some (.inr (.inl (d,c,a,b))))

def gauss_Valid_b1 (n:Nat) (d:List (List (Int×Bool))) (h:List Int):Int×Int×(List Bool)×(List Bool)→Option ((Int×Int×(List Bool)×(List Bool))⊕((Int×Int×(List Bool)×(List Bool))⊕(Bool)))
  | (e,a,b,c)=>cond (decide (a<(d.length:Int))) ((get d a).bind fun x81=>cond (decide ((x81.length:Int)=0)) (some (.inr (.inr false))) (((loopN n (F.gauss_Valid_b2 n h x81) (e,0,b,c)).bind fun o98=>match o98 with
    | (.inl (i,j,f,g))=>(chk (a+1)).bind fun z182=>some (.inl (i,z182,f,g))
    | (.inr q)=>some (.inr (.inr q))))) (some (.inr (.inl (e,a,b,c))))

def gauss_Valid_b0 (n:Nat) (b:List Int):Int→Option ((Int)⊕((Int)⊕(Bool)))
  | a=>cond (decide (a<(b.length:Int))) ((get b a).bind fun x31=>cond (!(decide (x31=1))) (cond (!(decide (x31=(-1)))) (some (.inr (.inr false))) ((chk (a+1)).bind fun z41=>some (.inl z41))) ((chk (a+1)).bind fun z43=>some (.inl z43))) (some (.inr (.inl a)))

def gauss_Valid (n:Nat) (c:List (List (Int×Bool))) (a:List Int) (b:Int):Option (Bool):=
  cond (decide (64<(a.length:Int))) (some false) (cond (decide (b<0)) (some false) (cond (decide (64<b)) (some false) (((loopN n (F.gauss_Valid_b0 n a) 0).bind fun o19=>match o19 with
    | (.inl g)=>(pos (a.length:Int)).bind fun u48=>(pos (a.length:Int)).bind fun u57=>((loopN n (F.gauss_Valid_b1 n c a) (0,0,(List.replicate (a.length:Int).toNat false),(List.replicate (a.length:Int).toNat false))).bind fun o69=>match o69 with
    | (.inl (d,h,e,f))=>(chk (2*(a.length:Int))).bind fun z187=>some (decide (d=z187))
    | (.inr q)=>some q)
    | (.inr q)=>some q))))


def gauss_ends (n:Nat) (d:List (List (Int×Bool))) (c:List Int) (e:Int) (a:Int) (b:Bool):Option (Int×Int):=
  (chk (4*a)).bind fun z11=>cond (!b) ((chk (z11+2)).bind fun z18=>some (z11,z18)) ((get c a).bind fun x21=>cond (decide (x21=1)) ((chk (z11+3)).bind fun z29=>(chk (z11+1)).bind fun z31=>some (z29,z31)) ((chk (z11+1)).bind fun z34=>(chk (z11+3)).bind fun z36=>some (z34,z36)))

def gauss_mates_b1 (n:Nat) (c:List (List (Int×Bool))) (d:List Int) (e:Int) (x33:List (Int×Bool)):Int×(List Int)→Option ((Int×(List Int))⊕((Int×(List Int))))
  | (a,b)=>cond (decide (a<(x33.length:Int))) ((get x33 a).bind fun x57=>(F.gauss_ends n c d e x57.1 x57.2).bind fun y72=>(chk (a+1)).bind fun z81=>(nz (x33.length:Int)).bind fun u83=>(get x33 (Int.tmod z81 (x33.length:Int))).bind fun x85=>(F.gauss_ends n c d e x85.1 x85.2).bind fun y96=>(get b y72.2).bind fun x103=>(get (b.set y72.2.toNat y96.1) y96.1).bind fun x110=>(chk (a+1)).bind fun z117=>some (.inl (z117,((b.set y72.2.toNat y96.1).set y96.1.toNat y72.2)))) (some (.inr (a,b)))

def gauss_mates_b0 (n:Nat) (b:List (List (Int×Bool))) (e:List Int) (f:Int):Int×(List Int)→Option ((Int×(List Int))⊕((Int×(List Int))))
  | (a,c)=>cond (decide (a<(b.length:Int))) ((get b a).bind fun x33=>((loopN n (F.gauss_mates_b1 n b e f x33) (0,c)).bind fun o45=>match o45 with
    | (g,d)=>(chk (a+1)).bind fun z121=>some (.inl (z121,d)))) (some (.inr (a,c)))

def gauss_mates (n:Nat) (c:List (List (Int×Bool))) (a:List Int) (d:Int):Option ((List Int)):=
  (chk (4*(a.length:Int))).bind fun z8=>(pos z8).bind fun u10=>((loopN n (F.gauss_mates_b0 n c a d) (0,(List.replicate z8.toNat (0:Int)))).bind fun o21=>match o21 with
    | (e,b)=>some b)


def diagram_Turn (n:Nat) (a:Int) (b:Int):Option (Int):=
  cond (decide (a<0)) (some (-1)) ((nz 4).bind fun u7=>(chk (a-(Int.tmod a 4))).bind fun z9=>(nz 4).bind fun u11=>(nz 4).bind fun u13=>(chk ((Int.tmod a 4)+(Int.tmod b 4))).bind fun z15=>(chk (z15+4)).bind fun z17=>(nz 4).bind fun u19=>(chk (z9+(Int.tmod z17 4))).bind fun z21=>some z21)

def gauss_genus_b1 (n:Nat) (c:List Int):Int×(List Bool)→Option ((Int×(List Bool))⊕((Int×(List Bool))))
  | (b,a)=>(get a b).bind fun x58=>cond (!x58) ((get a b).bind fun x66=>(get c b).bind fun x73=>(F.diagram_Turn n x73 (-1)).bind fun y79=>some (.inl (y79,(a.set b.toNat true)))) (some (.inr (b,a)))

def gauss_genus_b4 (n:Nat) (d:List Int) (x155:Int):(List Int)×Int×(List Bool)→Option (((List Int)×Int×(List Bool))⊕(((List Int)×Int×(List Bool))))
  | (c,b,a)=>cond (decide (b<4)) ((chk (4*x155)).bind fun z183=>(chk (z183+b)).bind fun z185=>(get d z185).bind fun x187=>(nz 4).bind fun u193=>(chk (Int.tdiv x187 4)).bind fun z195=>(get a z195).bind fun x199=>cond (!x199) ((get a z195).bind fun x207=>(lim (c.length+([z195]:List Int).length)).bind fun u220=>(chk (b+1)).bind fun z227=>some (.inl ((c++([z195]:List Int)),z227,(a.set z195.toNat true)))) ((chk (b+1)).bind fun z229=>some (.inl (c,z229,a)))) (some (.inr (c,b,a)))

def gauss_genus_b3 (n:Nat) (c:List Int):(List Int)×(List Bool)→Option (((List Int)×(List Bool))⊕(((List Int)×(List Bool))))
  | (a,b)=>cond (decide (0<(a.length:Int))) ((chk ((a.length:Int)-1)).bind fun z153=>(get a z153).bind fun x155=>(chk ((a.length:Int)-1)).bind fun z163=>(cut 0 z163 a.length).bind fun u165=>((loopN n (F.gauss_genus_b4 n c x155) ((a.take z163.toNat),0,b)).bind fun o170=>match o170 with
    | (e,f,d)=>some (.inl (e,d)))) (some (.inr (a,b)))

def gauss_genus_b2 (n:Nat) (d:List Int) (z6:Int):Int×Int×(List Bool)→Option ((Int×Int×(List Bool))⊕((Int×Int×(List Bool))))
  | (c,a,b)=>cond (decide (a<z6)) ((get b a).bind fun x114=>cond x114 ((chk (a+1)).bind fun z121=>some (.inl (c,z121,b))) ((chk (c+1)).bind fun z124=>(get b a).bind fun x128=>((loopN n (F.gauss_genus_b3 n d) (([a]:List Int),(b.set a.toNat true))).bind fun o142=>match o142 with
    | (f,e)=>(chk (a+1)).bind fun z235=>some (.inl (z124,z235,e))))) (some (.inr (c,a,b)))

def gauss_genus_b0 (n:Nat) (c:List Int):Int×Int×(List Bool)→Option ((Int×Int×(List Bool))⊕((Int×Int×(List Bool))))
  | (d,a,b)=>cond (decide (a<(c.length:Int))) ((get b a).bind fun x35=>cond x35 ((chk (a+1)).bind fun z42=>some (.inl (d,z42,b))) ((chk (d+1)).bind fun z45=>((loopN n (F.gauss_genus_b1 n c) (a,b)).bind fun o49=>match o49 with
    | (f,e)=>(chk (a+1)).bind fun z85=>some (.inl (z45,z85,e))))) (some (.inr (d,a,b)))

def gauss_genus (n:Nat) (a:List Int):Option (Int):=
  (nz 4).bind fun u4=>(chk (Int.tdiv (a.length:Int) 4)).bind fun z6=>(pos (a.length:Int)).bind fun u10=>((loopN n (F.gauss_genus_b0 n a) (0,0,(List.replicate (a.length:Int).toNat false))).bind fun o21=>match o21 with
    | (b,f,d)=>(pos z6).bind fun u90=>((loopN n (F.gauss_genus_b2 n a z6) (0,0,(List.replicate z6.toNat false))).bind fun o100=>match o100 with
    | (c,g,e)=>(chk (2*c)).bind fun z240=>(chk (z240+z6)).bind fun z242=>(chk (z242-b)).bind fun z244=>(nz 2).bind fun u246=>(chk (Int.tdiv z244 2)).bind fun z248=>some z248))


def slices_Clone_Lint_int (n:Nat) (a:List Int):Option ((List Int)):=
  (lim (([]:List Int).length+a.length)).bind fun u16=>some (([]:List Int)++a)


def gauss_Diagram (n:Nat) (c:List (List (Int×Bool))) (a:List Int) (b:Int):Option ((List Int)×(List Int)×Int×Int):=
  (F.gauss_Valid n c a b).bind fun y12=>cond (!y12) (some ([],[],0,1)) ((F.gauss_mates n c a b).bind fun y21=>(F.gauss_genus n y21).bind fun y32=>cond (!(decide (y32=0))) (some ([],[],0,7)) ((F.slices_Clone_Lint_int n a).bind fun y45=>some (y45,y21,b,0)))

def polygon_Project_b0 (n:Nat) (y27:(List (List (Int×Bool)))×Bool):Int×Int→Option ((Int×Int)⊕((Int×Int)))
  | (b,a)=>cond (decide (a<(y27.1.length:Int))) ((get y27.1 a).bind fun x59=>(chk (b+(x59.length:Int))).bind fun z70=>(chk (a+1)).bind fun z72=>some (.inl (z70,z72))) (some (.inr (b,a)))

def polygon_Project (n:Nat) (a:List (List (Int×(Int×Int)))):Option ((List Int)×(List Int)×Int×Int):=
  (F.polygon_valid n a).bind fun y8=>cond (!y8) (some ([],[],0,1)) ((F.polygon_edges n a).bind fun y17=>(F.polygon_cross n y17).bind fun y27=>cond (!y27.2) (some ([],[],0,15)) (((loopN n (F.polygon_Project_b0 n y27) (0,0)).bind fun o47=>match o47 with
    | (b,c)=>cond (decide (128<b)) (some ([],[],0,5)) ((F.polygon_code n a y17 y27.1).bind fun y84=>(F.gauss_Diagram n y84.1 y84.2.1 y84.2.2).bind fun y100=>some (y100.1,y100.2.1,y100.2.2.1,y100.2.2.2)))))


def polygon_Generic (n:Nat) (a:List (List (Int×(Int×Int)))):Option (Bool):=
  (F.polygon_valid n a).bind fun y5=>cond (!y5) (some false) ((F.polygon_edges n a).bind fun y11=>(F.polygon_cross n y11).bind fun y20=>some y20.2)


def law46_awake (n:Nat):Option (Bool):=
  (F.polygon_Project n ([([(0,(0,0)),(10,(10,0)),(10,(0,5)),(0,(10,5))]:List (Int×(Int×Int)))]:List (List (Int×(Int×Int))))).bind fun y16=>cond (decide (y16.2.2.2=0)) (cond (decide ((y16.1.length:Int)=1)) ((get y16.1 0).bind fun x41=>cond (decide (x41=(-1))) (cond (decide (y16.2.2.1=0)) ((F.polygon_Generic n ([([(0,(0,0)),(10,(10,0)),(10,(0,5)),(0,(10,5))]:List (Int×(Int×Int)))]:List (List (Int×(Int×Int))))).bind fun y49=>some y49) (some false)) (some false)) (some false)) (some false)


def ref46_fits (n:Nat) (a:Int) (b:Int) (c:Int):Option (Bool):=
  cond (decide ((-1000)≤a)) (cond (decide (a≤1000)) (cond (decide ((-1000)≤b)) (cond (decide (b≤1000)) (cond (decide ((-1000)≤c)) (some (decide (c≤1000))) (some false)) (some false)) (some false)) (some false)) (some false)


def law46_few_b0 (n:Nat) (c:List (List (Int×(Int×Int)))):Int×Int→Option ((Int×Int)⊕((Int×Int)))
  | (b,a)=>cond (decide (a<(c.length:Int))) ((get c a).bind fun x18=>(chk (b+(x18.length:Int))).bind fun z29=>(chk (a+1)).bind fun z31=>some (.inl (z29,z31))) (some (.inr (b,a)))

def law46_few (n:Nat) (a:List (List (Int×(Int×Int)))):Option (Bool):=
  ((loopN n (F.law46_few_b0 n a) (0,0)).bind fun o6=>match o6 with
    | (b,c)=>cond (decide ((a.length:Int)≤24)) (some (decide (b≤24))) (some false))

def ref46_Valid_b1 (n:Nat) (c:List (List (Int×(Int×Int)))) (b:Int):Int→Option ((Int)⊕((Int)⊕(Bool)))
  | a=>(get c b).bind fun x57=>cond (decide (a<(x57.length:Int))) ((get c b).bind fun x71=>(get x71 a).bind fun x82=>(F.ref46_fits n x82.1 x82.2.1 x82.2.2).bind fun y96=>cond (!y96) (some (.inr (.inr false))) ((chk (a+1)).bind fun z101=>some (.inl z101))) (some (.inr (.inl a)))

def ref46_Valid_b0 (n:Nat) (b:List (List (Int×(Int×Int)))):Int×Int→Option ((Int×Int)⊕((Int×Int)⊕(Bool)))
  | (c,a)=>cond (decide (a<(b.length:Int))) ((get b a).bind fun x19=>cond (decide ((x19.length:Int)<3)) (some (.inr (.inr false))) ((get b a).bind fun x34=>(chk (c+(x34.length:Int))).bind fun z45=>((loopN n (F.ref46_Valid_b1 n b a) 0).bind fun o48=>match o48 with
    | (.inl d)=>(chk (a+1)).bind fun z105=>some (.inl (z45,z105))
    | (.inr q)=>some (.inr (.inr q))))) (some (.inr (.inl (c,a))))

def ref46_Valid (n:Nat) (b:List (List (Int×(Int×Int)))):Option (Bool):=
  ((loopN n (F.ref46_Valid_b0 n b) (0,0)).bind fun o6=>match o6 with
    | (.inl (a,c))=>some (decide (a≤100))
    | (.inr q)=>some q)


def slices_Equal_Lint_int_b0 (n:Nat) (b:List Int) (c:List Int):Int→Option ((Int)⊕((Int)⊕(Bool)))
  | a=>cond (decide (a<(b.length:Int))) ((get b a).bind fun x25=>(get c a).bind fun x32=>cond (!(decide (x25=x32))) (some (.inr (.inr false))) ((chk (a+1)).bind fun z41=>some (.inl z41))) (some (.inr (.inl a)))

def slices_Equal_Lint_int (n:Nat) (a:List Int) (b:List Int):Option (Bool):=
  cond (!(decide ((a.length:Int)=(b.length:Int)))) (some false) (((loopN n (F.slices_Equal_Lint_int_b0 n a b) 0).bind fun o10=>match o10 with
    | (.inl c)=>some true
    | (.inr q)=>some q))


def diagram_Equal (n:Nat) (a:List Int) (b:List Int) (c:Int) (d:List Int) (e:List Int) (f:Int):Option (Bool):=
  (F.slices_Equal_Lint_int n a d).bind fun y13=>cond y13 ((F.slices_Equal_Lint_int n b e).bind fun y17=>cond y17 (some (decide (c=f))) (some false)) (some false)


def polygon_Subdivide_j2 (n:Nat) (z135:Int) (z137:Int) (z139:Int) (a:Int) (c:Int) (b:List (List (Int×(Int×Int)))) (x212:Int×(Int×Int)) (x231:List (Int×(Int×Int))) (d:Bool):Option ((Int×(List (List (Int×(Int×Int)))))⊕((Int×(List (List (Int×(Int×Int))))))):=
  cond d ((get (b.set a.toNat (x231++([(x212.1,(x212.2.1,x212.2.2))]:List (Int×(Int×Int))))) a).bind fun x282=>(get (b.set a.toNat (x231++([(x212.1,(x212.2.1,x212.2.2))]:List (Int×(Int×Int))))) a).bind fun x294=>(nz 2).bind fun u303=>(chk (Int.tdiv z135 2)).bind fun z305=>(nz 2).bind fun u307=>(chk (Int.tdiv z137 2)).bind fun z309=>(nz 2).bind fun u311=>(chk (Int.tdiv z139 2)).bind fun z313=>(lim (x282.length+([(z305,(z309,z313))]:List (Int×(Int×Int))).length)).bind fun u321=>(get (b.set a.toNat (x231++([(x212.1,(x212.2.1,x212.2.2))]:List (Int×(Int×Int))))) a).bind fun x328=>(chk (c+1)).bind fun z339=>some (.inl (z339,((b.set a.toNat (x231++([(x212.1,(x212.2.1,x212.2.2))]:List (Int×(Int×Int))))).set a.toNat (x282++([(z305,(z309,z313))]:List (Int×(Int×Int)))))))) ((chk (c+1)).bind fun z341=>some (.inl (z341,(b.set a.toNat (x231++([(x212.1,(x212.2.1,x212.2.2))]:List (Int×(Int×Int))))))))

def polygon_Subdivide_b1 (n:Nat) (d:Int) (e:Int) (z135:Int) (z137:Int) (z139:Int) (b:Int) (x188:List (Int×(Int×Int))):Int×(List (List (Int×(Int×Int))))→Option ((Int×(List (List (Int×(Int×Int)))))⊕((Int×(List (List (Int×(Int×Int)))))))
  | (c,a)=>cond (decide (c<(x188.length:Int))) ((get x188 c).bind fun x212=>(get a b).bind fun x231=>(get a b).bind fun x243=>(lim (x231.length+([(x212.1,(x212.2.1,x212.2.2))]:List (Int×(Int×Int))).length)).bind fun u258=>(get a b).bind fun x265=>cond (decide (b=d)) (F.polygon_Subdivide_j2 n z135 z137 z139 b c a x212 x231 (decide (c=e))) (F.polygon_Subdivide_j2 n z135 z137 z139 b c a x212 x231 false)) (some (.inr (c,a)))

def polygon_Subdivide_b0 (n:Nat) (f:List (List (Int×(Int×Int)))) (d:Int) (e:Int) (z135:Int) (z137:Int) (z139:Int):Int×(List (List (Int×(Int×Int))))→Option ((Int×(List (List (Int×(Int×Int)))))⊕((Int×(List (List (Int×(Int×Int)))))))
  | (a,b)=>cond (decide (a<(f.length:Int))) ((get f a).bind fun x188=>((loopN n (F.polygon_Subdivide_b1 n d e z135 z137 z139 a x188) (0,b)).bind fun o200=>match o200 with
    | (g,c)=>(chk (a+1)).bind fun z345=>some (.inl (z345,c)))) (some (.inr (a,b)))

def polygon_Subdivide (n:Nat) (c:List (List (Int×(Int×Int)))) (a:Int) (b:Int):Option ((List (List (Int×(Int×Int))))×Int):=
  (F.polygon_valid n c).bind fun y5=>cond (!y5) (some ([],1)) ((F.polygon_edges n c).bind fun y11=>cond (decide ((y11.length:Int)=100)) (some ([],1)) (cond (decide (a<0)) (some ([],2)) (cond (decide ((c.length:Int)≤a)) (some ([],2)) (cond (decide (b<0)) (some ([],2)) ((get c a).bind fun x37=>cond (decide ((x37.length:Int)≤b)) (some ([],2)) ((get c a).bind fun x55=>(get x55 b).bind fun x67=>(get c a).bind fun x82=>(chk (b+1)).bind fun z94=>(get c a).bind fun x96=>(nz (x96.length:Int)).bind fun u108=>(get x82 (Int.tmod z94 (x96.length:Int))).bind fun x110=>(chk (x67.1+x110.1)).bind fun z135=>(chk (x67.2.1+x110.2.1)).bind fun z137=>(chk (x67.2.2+x110.2.2)).bind fun z139=>(nz 2).bind fun u148=>cond (!(decide ((Int.tmod z135 2)=0))) (some ([],10)) ((nz 2).bind fun u153=>cond (!(decide ((Int.tmod z137 2)=0))) (some ([],10)) ((nz 2).bind fun u159=>cond (!(decide ((Int.tmod z139 2)=0))) (some ([],10)) ((pos (c.length:Int)).bind fun u166=>((loopN n (F.polygon_Subdivide_b0 n c a b z135 z137 z139) (0,(List.replicate (c.length:Int).toNat ([]:List (Int×(Int×Int)))))).bind fun o176=>match o176 with
    | (e,d)=>some (d,0)))))))))))


def ref46_abs (n:Nat) (a:Int):Option (Int):=
  cond (decide (a<0)) ((chk (0-a)).bind fun z6=>some z6) (some a)


def ref46_Even (n:Nat) (a:Int) (b:Int) (c:Int) (d:Int) (e:Int) (f:Int):Option (Bool):=
  (chk (a+d)).bind fun z9=>(F.ref46_abs n z9).bind fun y11=>(nz 2).bind fun u15=>cond (decide ((Int.tmod y11 2)=0)) ((chk (b+e)).bind fun z18=>(F.ref46_abs n z18).bind fun y20=>(nz 2).bind fun u24=>cond (decide ((Int.tmod y20 2)=0)) ((chk (c+f)).bind fun z27=>(F.ref46_abs n z27).bind fun y29=>(nz 2).bind fun u33=>some (decide ((Int.tmod y29 2)=0))) (some false)) (some false)


def slices_Clone_Point_Point (n:Nat) (a:List (Int×(Int×Int))):Option ((List (Int×(Int×Int)))):=
  (lim (([]:List (Int×(Int×Int))).length+a.length)).bind fun u16=>some (([]:List (Int×(Int×Int)))++a)


def ref46_Middle (n:Nat) (a:Int) (b:Int) (c:Int) (d:Int) (e:Int) (f:Int):Option (Int×Int×Int):=
  (chk (a+d)).bind fun z12=>(nz 2).bind fun u14=>(chk (Int.tdiv z12 2)).bind fun z16=>(chk (b+e)).bind fun z18=>(nz 2).bind fun u20=>(chk (Int.tdiv z18 2)).bind fun z22=>(chk (c+f)).bind fun z24=>(nz 2).bind fun u26=>(chk (Int.tdiv z24 2)).bind fun z28=>some (z16,z22,z28)

def slices_Insert_Point_Point (n:Nat) (a:List (Int×(Int×Int))) (b:Int) (c:List (Int×(Int×Int))):Option (List (Int×(Int×Int))):=insG a b c

def slices_Equal_Point_Point_b0 (n:Nat) (b:List (Int×(Int×Int))) (c:List (Int×(Int×Int))):Int→Option ((Int)⊕((Int)⊕(Bool)))
  | a=>cond (decide (a<(b.length:Int))) ((get b a).bind fun x25=>(get c a).bind fun x40=>cond (!(decide (x25.1=x40.1)&&(decide (x25.2.1=x40.2.1)&&(decide (x25.2.2=x40.2.2)&&true)))) (some (.inr (.inr false))) ((chk (a+1)).bind fun z57=>some (.inl z57))) (some (.inr (.inl a)))

def slices_Equal_Point_Point (n:Nat) (a:List (Int×(Int×Int))) (b:List (Int×(Int×Int))):Option (Bool):=
  cond (!(decide ((a.length:Int)=(b.length:Int)))) (some false) (((loopN n (F.slices_Equal_Point_Point_b0 n a b) 0).bind fun o10=>match o10 with
    | (.inl c)=>some true
    | (.inr q)=>some q))

def law46_PolygonSubdivides_b1 (n:Nat) (d:List (List (Int×(Int×Int)))) (b:Int) (c:Int) (y22:(List (List (Int×(Int×Int))))×Int) (x76:Int×(Int×Int)) (x119:Int×(Int×Int)):Int→Option ((Int)⊕((Int)⊕(Bool)))
  | a=>cond (decide (a<(d.length:Int))) ((get d a).bind fun x172=>cond (decide (a=b)) ((F.slices_Clone_Point_Point n x172).bind fun y190=>(chk (c+1)).bind fun z199=>(F.ref46_Middle n x76.1 x76.2.1 x76.2.2 x119.1 x119.2.1 x119.2.2).bind fun y201=>(F.slices_Insert_Point_Point n y190 z199 ([(y201.1,(y201.2.1,y201.2.2))]:List (Int×(Int×Int)))).bind fun y213=>(get y22.1 a).bind fun x225=>(F.slices_Equal_Point_Point n x225 y213).bind fun y236=>cond (!y236) (some (.inr (.inr false))) ((chk (a+1)).bind fun z241=>some (.inl z241))) ((get y22.1 a).bind fun x244=>(F.slices_Equal_Point_Point n x244 x172).bind fun y255=>cond (!y255) (some (.inr (.inr false))) ((chk (a+1)).bind fun z260=>some (.inl z260)))) (some (.inr (.inl a)))

def law46_PolygonSubdivides_j0 (n:Nat) (c:List (List (Int×(Int×Int)))) (a:Int) (b:Int) (y22:(List (List (Int×(Int×Int))))×Int) (d:Bool):Option (Bool):=
  cond d (cond (decide (y22.2=2)) (some (decide ((y22.1.length:Int)=0))) (some false)) ((get c a).bind fun x64=>(get x64 b).bind fun x76=>(get c a).bind fun x91=>(chk (b+1)).bind fun z103=>(get c a).bind fun x105=>(nz (x105.length:Int)).bind fun u117=>(get x91 (Int.tmod z103 (x105.length:Int))).bind fun x119=>(F.ref46_Even n x76.1 x76.2.1 x76.2.2 x119.1 x119.2.1 x119.2.2).bind fun y145=>cond (!y145) (cond (decide (y22.2=10)) (some (decide ((y22.1.length:Int)=0))) (some false)) (cond (!(decide (y22.2=0))) (some false) (cond (!(decide ((y22.1.length:Int)=(c.length:Int)))) (some false) (((loopN n (F.law46_PolygonSubdivides_b1 n c a b y22 x76 x119) 0).bind fun o160=>match o160 with
    | (.inl e)=>(F.polygon_Project n c).bind fun y265=>(F.polygon_Project n y22.1).bind fun y287=>cond (!(decide (y265.2.2.2=0))) (some true) (cond (decide (y287.2.2.2=15)) (some true) (cond (decide (y287.2.2.2=0)) ((F.diagram_Equal n y287.1 y287.2.1 y287.2.2.1 y265.1 y265.2.1 y265.2.2.1).bind fun y313=>some y313) (some false)))
    | (.inr q)=>some q)))))

def law46_PolygonSubdivides (n:Nat) (c:List (List (Int×(Int×Int)))) (a:Int) (b:Int):Option (Bool):=
  (F.law46_awake n).bind fun y5=>cond (!y5) ((F.law46_awake n).bind fun y10=>some y10) ((F.law46_few n c).bind fun y13=>cond (!y13) ((F.law46_awake n).bind fun y18=>some y18) ((F.polygon_Subdivide n c a b).bind fun y22=>(F.ref46_Valid n c).bind fun y35=>cond (!y35) (cond (decide (y22.2=1)) (some (decide ((y22.1.length:Int)=0))) (some false)) (cond (decide (a<0)) (F.law46_PolygonSubdivides_j0 n c a b y22 true) (cond (decide ((c.length:Int)≤a)) (F.law46_PolygonSubdivides_j0 n c a b y22 true) (cond (decide (b<0)) (F.law46_PolygonSubdivides_j0 n c a b y22 true) ((get c a).bind fun x45=>F.law46_PolygonSubdivides_j0 n c a b y22 (decide ((x45.length:Int)≤b))))))))


end F
end Go.Proofs.Yteajmbanlohncaa
