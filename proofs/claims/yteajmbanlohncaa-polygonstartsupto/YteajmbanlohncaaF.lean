import Derived.Test.YteajmbanlohncaaRun
import Derived.Test.YteajmbanlohncaaShort
import Derived.Test.YteajmbanlohncaaCall
import Derived.Test.YteajmbanlohncaaNest
import Derived.Test.YteajmbanlohncaaSort
import Derived.Test.YteajmbanlohncaaSortK
import Derived.Test.YteajmbanlohncaaArr
import Derived.Test.YteajmbanlohncaaRow
import Derived.Test.YteajmbanlohncaaMap
import Derived.Test.YteajmbanlohncaaCut
import Derived.Test.YteajmbanlohncaaElem
import Derived.Test.YteajmbanlohncaaNil
import Derived.Test.YteajmbanlohncaaView
set_option linter.unusedVariables false
set_option linter.unusedSimpArgs false
namespace Go.Proofs.Yteajmbanlohncaa
open Ev
namespace F
def polygon_within_b0 (n:Nat) (b:Int) (c:Int) (d:Int):Int→Option ((Int)⊕((Int)⊕(Bool)))
  | a=>cond (decide (a<3)) ((get ([b,c,d]:List Int) a).bind fun x20=>cond (decide (x20<(-1000))) (some (.inr (.inr false))) (cond (decide (1000<x20)) (some (.inr (.inr false))) ((chk (a+1)).bind fun z28=>some (.inl z28)))) (some (.inr (.inl a)))

def polygon_within (n:Nat) (a:Int) (b:Int) (c:Int):Option (Bool):=
  ((loopN n (F.polygon_within_b0 n a b c) 0).bind fun o8=>match o8 with
    | (.inl d)=>some true
    | (.inr q)=>some q)

def polygon_valid_b1 (n:Nat) (x18:List (Int×(Int×Int))):Int→Option ((Int)⊕((Int)⊕(Bool)))
  | a=>cond (decide (a<(x18.length:Int))) ((get x18 a).bind fun x52=>(F.polygon_within n x52.1 x52.2.1 x52.2.2).bind fun y71=>cond (!y71) (some (.inr (.inr false))) ((chk (a+1)).bind fun z76=>some (.inl z76))) (some (.inr (.inl a)))

def polygon_valid_b0 (n:Nat) (c:List (List (Int×(Int×Int)))):Int×Int→Option ((Int×Int)⊕((Int×Int)⊕(Bool)))
  | (b,a)=>cond (decide (a<(c.length:Int))) ((get c a).bind fun x18=>(chk (b+(x18.length:Int))).bind fun z30=>cond (decide ((x18.length:Int)<3)) (some (.inr (.inr false))) (cond (decide (100<z30)) (some (.inr (.inr false))) (((loopN n (F.polygon_valid_b1 n x18) 0).bind fun o40=>match o40 with
    | (.inl d)=>(chk (a+1)).bind fun z80=>some (.inl (z30,z80))
    | (.inr q)=>some (.inr (.inr q)))))) (some (.inr (.inl (b,a))))

def polygon_valid (n:Nat) (a:List (List (Int×(Int×Int)))):Option (Bool):=
  ((loopN n (F.polygon_valid_b0 n a) (0,0)).bind fun o6=>match o6 with
    | (.inl (c,b))=>some true
    | (.inr q)=>some q)

def polygon_edges_b1 (n:Nat) (c:List ((Int×(Int×Int))×((Int×(Int×Int))×(Int×Int)))) (x19:List (Int×(Int×Int))):(List ((Int×(Int×Int))×((Int×(Int×Int))×(Int×Int))))×Int→Option (((List ((Int×(Int×Int))×((Int×(Int×Int))×(Int×Int))))×Int)⊕(((List ((Int×(Int×Int))×((Int×(Int×Int))×(Int×Int))))×Int)))
  | (b,a)=>cond (decide (a<(x19.length:Int))) ((get x19 a).bind fun x45=>(chk (a+1)).bind fun z64=>(nz (x19.length:Int)).bind fun u66=>(get x19 (Int.tmod z64 (x19.length:Int))).bind fun x71=>(chk ((c.length:Int)+a)).bind fun z86=>(chk ((c.length:Int)+(Int.tmod z64 (x19.length:Int)))).bind fun z88=>(lim (b.length+([((x45.1,(x45.2.1,x45.2.2)),((x71.1,(x71.2.1,x71.2.2)),(z86,z88)))]:List ((Int×(Int×Int))×((Int×(Int×Int))×(Int×Int)))).length)).bind fun u96=>(chk (a+1)).bind fun z103=>some (.inl ((b++([((x45.1,(x45.2.1,x45.2.2)),((x71.1,(x71.2.1,x71.2.2)),(z86,z88)))]:List ((Int×(Int×Int))×((Int×(Int×Int))×(Int×Int))))),z103))) (some (.inr (b,a)))

def polygon_edges_b0 (n:Nat) (c:List (List (Int×(Int×Int)))):(List ((Int×(Int×Int))×((Int×(Int×Int))×(Int×Int))))×Int→Option (((List ((Int×(Int×Int))×((Int×(Int×Int))×(Int×Int))))×Int)⊕(((List ((Int×(Int×Int))×((Int×(Int×Int))×(Int×Int))))×Int)))
  | (b,a)=>cond (decide (a<(c.length:Int))) ((get c a).bind fun x19=>((loopN n (F.polygon_edges_b1 n b x19) (b,0)).bind fun o33=>match o33 with
    | (d,e)=>(chk (a+1)).bind fun z107=>some (.inl (d,z107)))) (some (.inr (b,a)))

def polygon_edges (n:Nat) (b:List (List (Int×(Int×Int)))):Option ((List ((Int×(Int×Int))×((Int×(Int×Int))×(Int×Int))))):=
  ((loopN n (F.polygon_edges_b0 n b) (([]:List ((Int×(Int×Int))×((Int×(Int×Int))×(Int×Int)))),0)).bind fun o7=>match o7 with
    | (a,c)=>some a)


def polygon_turn (n:Nat) (a:Int) (b:Int) (g:Int) (c:Int) (d:Int) (h:Int) (e:Int) (f:Int) (i:Int):Option (Int):=
  (chk (c-a)).bind fun z12=>(chk (f-b)).bind fun z14=>(chk (z12*z14)).bind fun z16=>(chk (d-b)).bind fun z18=>(chk (e-a)).bind fun z20=>(chk (z18*z20)).bind fun z22=>(chk (z16-z22)).bind fun z24=>some z24


def polygon_on (n:Nat) (a:Int) (b:Int) (g:Int) (c:Int) (d:Int) (h:Int) (e:Int) (f:Int) (i:Int):Option (Bool):=
  (F.polygon_turn n a b g c d h e f i).bind fun y12=>cond (decide (y12=0)) (cond (decide ((min a c)≤e)) (cond (decide (e≤(max a c))) (cond (decide ((min b d)≤f)) (some (decide (f≤(max b d)))) (some false)) (some false)) (some false)) (some false)


def polygon_opposite (n:Nat) (a:Int) (b:Int):Option (Bool):=
  cond (decide (a<0)) (cond (decide (0<b)) (some true) (cond (decide (0<a)) (some (decide (b<0))) (some false))) (cond (decide (0<a)) (some (decide (b<0))) (some false))

def polygon_Cross_j3 (n:Nat) (a:Int) (b:Int) (c:Int) (d:Int):Option (Int×Bool):=
  (chk (b*c)).bind fun z152=>(chk (d*a)).bind fun z154=>cond (decide (z152=z154)) (some (2,false)) ((chk (b*c)).bind fun z159=>(chk (d*a)).bind fun z161=>some (1,(decide (z161<z159))))

def polygon_Cross_j2 (n:Nat) (z114:Int) (z129:Int) (a:Int) (b:Int):Option (Int×Bool):=
  cond (decide (z114<0)) ((chk (-z114)).bind fun z144=>(chk (-z129)).bind fun z146=>F.polygon_Cross_j3 n a b z144 z146) (F.polygon_Cross_j3 n a b z114 z129)

def polygon_Cross_j1 (n:Nat) (e:Int) (f:Int) (a:Int) (g:Int) (h:Int) (b:Int) (i:Int) (j:Int) (c:Int) (k:Int) (l:Int) (d:Int) (y51:Int) (y55:Int) (y63:Int) (y67:Int) (m:Bool):Option (Int×Bool):=
  cond m ((F.polygon_on n e f a g h b i j c).bind fun y86=>cond y86 (some (2,false)) ((F.polygon_on n e f a g h b k l d).bind fun y92=>cond y92 (some (2,false)) ((F.polygon_on n i j c k l d e f a).bind fun y98=>cond y98 (some (2,false)) ((F.polygon_on n i j c k l d g h b).bind fun y104=>cond y104 (some (2,false)) (some (0,false)))))) ((chk (y63-y67)).bind fun z112=>(chk (y51-y55)).bind fun z114=>(chk (b*y63)).bind fun z119=>(chk (a*y67)).bind fun z121=>(chk (z119-z121)).bind fun z123=>(chk (d*y51)).bind fun z125=>(chk (c*y55)).bind fun z127=>(chk (z125-z127)).bind fun z129=>cond (decide (z112<0)) ((chk (-z112)).bind fun z135=>(chk (-z123)).bind fun z137=>F.polygon_Cross_j2 n z114 z129 z135 z137) (F.polygon_Cross_j2 n z114 z129 z112 z123))

def polygon_Cross_b0 (n:Nat) (b:Int) (c:Int) (d:Int) (e:Int) (f:Int) (g:Int) (h:Int) (i:Int) (j:Int) (k:Int) (l:Int) (m:Int):Int→Option ((Int)⊕((Int)⊕(Int×Bool)))
  | a=>cond (decide (a<4)) ((get ([(b,(c,d)),(e,(f,g)),(h,(i,j)),(k,(l,m))]:List (Int×(Int×Int))) a).bind fun x29=>(F.polygon_within n x29.1 x29.2.1 x29.2.2).bind fun y39=>cond (!y39) (some (.inr (.inr (2,false)))) ((chk (a+1)).bind fun z44=>some (.inl z44))) (some (.inr (.inl a)))

def polygon_Cross (n:Nat) (a:Int) (b:Int) (c:Int) (d:Int) (e:Int) (f:Int) (g:Int) (h:Int) (i:Int) (j:Int) (k:Int) (l:Int):Option (Int×Bool):=
  ((loopN n (F.polygon_Cross_b0 n a b c d e f g h i j k l) 0).bind fun o17=>match o17 with
    | (.inl m)=>(F.polygon_turn n a b c d e f g h i).bind fun y51=>(F.polygon_turn n a b c d e f j k l).bind fun y55=>(F.polygon_turn n g h i j k l a b c).bind fun y63=>(F.polygon_turn n g h i j k l d e f).bind fun y67=>(F.polygon_opposite n y51 y55).bind fun y74=>cond (!y74) (F.polygon_Cross_j1 n a b c d e f g h i j k l y51 y55 y63 y67 true) ((F.polygon_opposite n y63 y67).bind fun y78=>F.polygon_Cross_j1 n a b c d e f g h i j k l y51 y55 y63 y67 (!y78))
    | (.inr q)=>some q)


def polygon_cross_c1 (n:Nat) (a:Int) (i:Bool) (b:List ((Int×(Int×Int))×((Int×(Int×Int))×(Int×Int)))) (c:Int) (d:Int) (e:Int) (f:Int) (g:Int) (h:Int) (j:Int) (k:Int):Option (Int×Int):=
  (get b a).bind fun x9=>(F.polygon_turn n x9.1.1 x9.1.2.1 x9.1.2.2 x9.2.1.1 x9.2.1.2.1 x9.2.1.2.2 c d e).bind fun y50=>(F.polygon_turn n x9.1.1 x9.1.2.1 x9.1.2.2 x9.2.1.1 x9.2.1.2.1 x9.2.1.2.2 f g h).bind fun y54=>(chk (-y50)).bind fun z60=>(chk (y50-y54)).bind fun z62=>(chk (y54-y50)).bind fun z64=>some ((max y50 z60),(max z62 z64))


def polygon_cross_c2 (n:Nat) (j:Int) (k:Bool) (l:Int) (m:Bool) (a:List ((Int×(Int×Int))×((Int×(Int×Int))×(Int×Int)))) (b:Int) (c:Int) (d:Int) (e:Int) (f:Int) (g:Int) (h:Int) (i:Int):Option (Int):=
  (F.polygon_cross_c1 n j k a b c d e f g h i).bind fun y13=>(F.polygon_cross_c1 n l m a b c d e f g h i).bind fun y20=>(chk (y13.1*y20.2)).bind fun z26=>(chk (y20.1*y13.2)).bind fun z28=>(chk (z26-z28)).bind fun z30=>some z30

def slices_SortFunc_passage_passage_polygon_cross_c2 (n:Nat) (j:List (Int×Bool)) (a:List ((Int×(Int×Int))×((Int×(Int×Int))×(Int×Int)))) (b:Int) (c:Int) (d:Int) (e:Int) (f:Int) (g:Int) (h:Int) (i:Int):Option (List (Int×Bool)):=if (j.all fun x=>j.all fun y=>(polygon_cross_c2 n x.1 x.2 y.1 y.2 a b c d e f g h i).isSome)=true∧swoL (fun x y:(Int×Bool)=>(polygon_cross_c2 n x.1 x.2 y.1 y.2 a b c d e f g h i).getD 0) j=true∧j.length≤1099511627776 then some (sortL (fun x y:(Int×Bool)=>(polygon_cross_c2 n x.1 x.2 y.1 y.2 a b c d e f g h i).getD 0) j) else none

def polygon_cross_j3 (n:Nat) (c:Int) (x30:(Int×(Int×Int))×((Int×(Int×Int))×(Int×Int))) (b:Int) (a:List (List (Int×Bool))) (x82:(Int×(Int×Int))×((Int×(Int×Int))×(Int×Int))) (d:Bool):Option ((Int×(List (List (Int×Bool))))⊕((Int×(List (List (Int×Bool))))⊕((List (List (Int×Bool)))×Bool))):=
  cond (decide (x82.2.2.1=x30.2.2.2)) ((chk (b+1)).bind fun z150=>some (.inl (z150,a))) (cond (decide (x82.2.2.2=x30.2.2.1)) ((chk (b+1)).bind fun z153=>some (.inl (z153,a))) ((F.polygon_Cross n x30.1.1 x30.1.2.1 x30.1.2.2 x30.2.1.1 x30.2.1.2.1 x30.2.1.2.2 x82.1.1 x82.1.2.1 x82.1.2.2 x82.2.1.1 x82.2.1.2.1 x82.2.1.2.2).bind fun y157=>cond (decide (y157.1=2)) (some (.inr (.inr ([],false)))) (cond (decide (y157.1=1)) ((get a c).bind fun x169=>(lim (x169.length+([(b,y157.2)]:List (Int×Bool)).length)).bind fun u189=>(get a c).bind fun x196=>(chk (b+1)).bind fun z206=>some (.inl (z206,(a.set c.toNat (x169++([(b,y157.2)]:List (Int×Bool))))))) ((chk (b+1)).bind fun z208=>some (.inl (z208,a))))))

def polygon_cross_j2 (n:Nat) (b:Int) (x30:(Int×(Int×Int))×((Int×(Int×Int))×(Int×Int))) (c:Int) (a:List (List (Int×Bool))) (x82:(Int×(Int×Int))×((Int×(Int×Int))×(Int×Int))) (d:Bool):Option ((Int×(List (List (Int×Bool))))⊕((Int×(List (List (Int×Bool))))⊕((List (List (Int×Bool)))×Bool))):=
  cond (!(decide (x82.2.2.1=x30.2.2.2))) ((F.polygon_on n x30.1.1 x30.1.2.1 x30.1.2.2 x30.2.1.1 x30.2.1.2.1 x30.2.1.2.2 x82.1.1 x82.1.2.1 x82.1.2.2).bind fun y138=>cond y138 (some (.inr (.inr ([],false)))) (F.polygon_cross_j3 n b x30 c a x82 y138)) (F.polygon_cross_j3 n b x30 c a x82 false)

def polygon_cross_b4 (n:Nat) (d:List ((Int×(Int×Int))×((Int×(Int×Int))×(Int×Int)))) (a:Int) (x30:(Int×(Int×Int))×((Int×(Int×Int))×(Int×Int))) (c:List (List (Int×Bool))) (y233:List (Int×Bool)):Int→Option ((Int)⊕((Int)⊕((List (List (Int×Bool)))×Bool)))
  | b=>(get (c.set a.toNat y233) a).bind fun x248=>cond (decide (b<(x248.length:Int))) ((get (c.set a.toNat y233) a).bind fun x267=>(chk (b-1)).bind fun z276=>(get x248 z276).bind fun x278=>(get (c.set a.toNat y233) a).bind fun x289=>(get x248 b).bind fun x298=>(F.polygon_cross_c2 n x278.1 x278.2 x298.1 x298.2 d x30.1.1 x30.1.2.1 x30.1.2.2 x30.2.1.1 x30.2.1.2.1 x30.2.1.2.2 x30.2.2.1 x30.2.2.2).bind fun y309=>cond (decide (y309=0)) (some (.inr (.inr ([],false)))) ((chk (b+1)).bind fun z318=>some (.inl z318))) (some (.inr (.inl b)))

def polygon_cross_b1 (n:Nat) (d:List ((Int×(Int×Int))×((Int×(Int×Int))×(Int×Int)))) (c:Int) (x30:(Int×(Int×Int))×((Int×(Int×Int))×(Int×Int))):Int×(List (List (Int×Bool)))→Option ((Int×(List (List (Int×Bool))))⊕((Int×(List (List (Int×Bool))))⊕((List (List (Int×Bool)))×Bool)))
  | (a,b)=>cond (decide (a<(d.length:Int))) ((get d a).bind fun x82=>cond (decide (a=c)) ((chk (a+1)).bind fun z123=>some (.inl (z123,b))) (cond (decide (x30.1.1=x82.1.1)) (cond (decide (x30.1.2.1=x82.1.2.1)) (some (.inr (.inr ([],false)))) (F.polygon_cross_j2 n c x30 a b x82 (decide (x30.1.2.1=x82.1.2.1)))) (F.polygon_cross_j2 n c x30 a b x82 false))) (some (.inr (.inl (a,b))))

def polygon_cross_b0 (n:Nat) (b:List ((Int×(Int×Int))×((Int×(Int×Int))×(Int×Int)))):Int×(List (List (Int×Bool)))→Option ((Int×(List (List (Int×Bool))))⊕((Int×(List (List (Int×Bool))))⊕((List (List (Int×Bool)))×Bool)))
  | (a,d)=>cond (decide (a<(b.length:Int))) ((get b a).bind fun x30=>((loopN n (F.polygon_cross_b1 n b a x30) (0,d)).bind fun o70=>match o70 with
    | (.inl (e,c))=>(get c a).bind fun x219=>(F.slices_SortFunc_passage_passage_polygon_cross_c2 n x219 b x30.1.1 x30.1.2.1 x30.1.2.2 x30.2.1.1 x30.2.1.2.1 x30.2.1.2.2 x30.2.2.1 x30.2.2.2).bind fun y233=>((loopN n (F.polygon_cross_b4 n b a x30 c y233) 1).bind fun o239=>match o239 with
    | (.inl f)=>(chk (a+1)).bind fun z322=>some (.inl (z322,(c.set a.toNat y233)))
    | (.inr q)=>some (.inr (.inr q)))
    | (.inr q)=>some (.inr (.inr q)))) (some (.inr (.inl (a,d))))

def polygon_cross (n:Nat) (a:List ((Int×(Int×Int))×((Int×(Int×Int))×(Int×Int)))):Option ((List (List (Int×Bool)))×Bool):=
  (pos (a.length:Int)).bind fun u7=>((loopN n (F.polygon_cross_b0 n a) (0,(List.replicate (a.length:Int).toNat ([]:List (Int×Bool))))).bind fun o18=>match o18 with
    | (.inl (c,b))=>some (b,true)
    | (.inr q)=>some q)


def polygon_sign (n:Nat) (e:Int) (f:Int) (m:Int) (g:Int) (h:Int) (o:Int) (p:Int) (q:Int) (a:Int) (b:Int) (i:Int) (c:Int) (d:Int) (j:Int) (k:Int) (l:Int):Option (Int):=
  (chk (g-e)).bind fun z11=>(chk (h-f)).bind fun z13=>(chk (d-b)).bind fun z18=>(chk (z11*z18)).bind fun z20=>(chk (c-a)).bind fun z22=>(chk (z13*z22)).bind fun z24=>(chk (z20-z24)).bind fun z26=>cond (decide (0<z26)) (some 1) (some (-1))

def polygon_code_j3 (n:Nat) (b:List (Int×Bool)) (e:Int) (x86:Int×Bool) (c:Int) (f:Bool) (a:List Int) (d:List ((Int×Int)×Int)):Option (((List (Int×Bool))×Int×(List Int)×(List ((Int×Int)×Int)))⊕(((List (Int×Bool))×Int×(List Int)×(List ((Int×Int)×Int))))):=
  (lim (b.length+([(c,x86.2)]:List (Int×Bool)).length)).bind fun u307=>(chk (e+1)).bind fun z314=>some (.inl ((b++([(c,x86.2)]:List (Int×Bool))),z314,a,d))

def polygon_code_b2 (n:Nat) (f:List ((Int×(Int×Int))×((Int×(Int×Int))×(Int×Int)))) (a:Int) (x62:List (Int×Bool)):(List (Int×Bool))×Int×(List Int)×(List ((Int×Int)×Int))→Option (((List (Int×Bool))×Int×(List Int)×(List ((Int×Int)×Int)))⊕(((List (Int×Bool))×Int×(List Int)×(List ((Int×Int)×Int)))))
  | (e,d,b,c)=>cond (decide (d<(x62.length:Int))) ((get x62 d).bind fun x86=>(chk ((mget c ((min a x86.1),(max a x86.1))).getD 0)).bind fun z107=>cond (!(mget c ((min a x86.1),(max a x86.1))).isSome) ((nok (mget c ((min a x86.1),(max a x86.1)))).bind fun u115=>(get f a).bind fun x121=>(get f x86.1).bind fun x156=>cond (!x86.2) ((F.polygon_sign n x156.1.1 x156.1.2.1 x156.1.2.2 x156.2.1.1 x156.2.1.2.1 x156.2.1.2.2 x156.2.2.1 x156.2.2.2 x121.1.1 x121.1.2.1 x121.1.2.2 x121.2.1.1 x121.2.1.2.1 x121.2.1.2.2 x121.2.2.1 x121.2.2.2).bind fun y207=>(lim (b.length+([y207]:List Int).length)).bind fun u217=>F.polygon_code_j3 n e d x86 (b.length:Int) (!(mget c ((min a x86.1),(max a x86.1))).isSome) (b++([y207]:List Int)) (c++[(((min a x86.1),(max a x86.1)),(b.length:Int))])) ((F.polygon_sign n x121.1.1 x121.1.2.1 x121.1.2.2 x121.2.1.1 x121.2.1.2.1 x121.2.1.2.2 x121.2.2.1 x121.2.2.2 x156.1.1 x156.1.2.1 x156.1.2.2 x156.2.1.1 x156.2.1.2.1 x156.2.1.2.2 x156.2.2.1 x156.2.2.2).bind fun y227=>(lim (b.length+([y227]:List Int).length)).bind fun u237=>F.polygon_code_j3 n e d x86 (b.length:Int) (!(mget c ((min a x86.1),(max a x86.1))).isSome) (b++([y227]:List Int)) (c++[(((min a x86.1),(max a x86.1)),(b.length:Int))]))) (F.polygon_code_j3 n e d x86 z107 (!(mget c ((min a x86.1),(max a x86.1))).isSome) b c)) (some (.inr (e,d,b,c)))

def polygon_code_b1 (n:Nat) (g:List ((Int×(Int×Int))×((Int×(Int×Int))×(Int×Int)))) (c:List (List (Int×Bool))) (j:Int) (x33:List (Int×(Int×Int))):(List (Int×Bool))×Int×(List Int)×(List ((Int×Int)×Int))→Option (((List (Int×Bool))×Int×(List Int)×(List ((Int×Int)×Int)))⊕(((List (Int×Bool))×Int×(List Int)×(List ((Int×Int)×Int)))))
  | (f,a,b,d)=>(chk (j+(x33.length:Int))).bind fun z57=>cond (decide (a<z57)) ((get c a).bind fun x62=>((loopN n (F.polygon_code_b2 n g a x62) (f,0,b,d)).bind fun o74=>match o74 with
    | (i,k,e,h)=>(chk (a+1)).bind fun z318=>some (.inl (i,z318,e,h)))) (some (.inr (f,a,b,d)))

def polygon_code_b0 (n:Nat) (l:List (List (Int×(Int×Int)))) (k:List ((Int×(Int×Int))×((Int×(Int×Int))×(Int×Int)))) (f:List (List (Int×Bool))):Int×Int×(List (List (Int×Bool)))×(List Int)×Int×(List ((Int×Int)×Int))→Option ((Int×Int×(List (List (Int×Bool)))×(List Int)×Int×(List ((Int×Int)×Int)))⊕((Int×Int×(List (List (Int×Bool)))×(List Int)×Int×(List ((Int×Int)×Int)))))
  | (g,c,a,d,b,i)=>cond (decide (c<(l.length:Int))) ((get l c).bind fun x33=>((loopN n (F.polygon_code_b1 n k f g x33) (([]:List (Int×Bool)),g,d,i)).bind fun o48=>match o48 with
    | (h,m,e,j)=>(chk (g+(x33.length:Int))).bind fun z323=>cond (decide (0<(h.length:Int))) ((lim (a.length+([h]:List (List (Int×Bool))).length)).bind fun u333=>(chk (c+1)).bind fun z341=>some (.inl (z323,z341,(a++([h]:List (List (Int×Bool)))),e,b,j))) ((chk (b+1)).bind fun z343=>(chk (c+1)).bind fun z346=>some (.inl (z323,z346,a,e,z343,j))))) (some (.inr (g,c,a,d,b,i)))

def polygon_code (n:Nat) (f:List (List (Int×(Int×Int)))) (e:List ((Int×(Int×Int))×((Int×(Int×Int))×(Int×Int)))) (a:List (List (Int×Bool))):Option ((List (List (Int×Bool)))×(List Int)×Int):=
  ((loopN n (F.polygon_code_b0 n f e a) (0,0,([]:List (List (Int×Bool))),([]:List Int),0,([]:List ((Int×Int)×Int)))).bind fun o21=>match o21 with
    | (i,h,b,c,d,g)=>some (b,c,d))

def gauss_Valid_b2 (n:Nat) (e:List Int) (x81:List (Int×Bool)):Int×Int×(List Bool)×(List Bool)→Option ((Int×Int×(List Bool)×(List Bool))⊕((Int×Int×(List Bool)×(List Bool))⊕(Bool)))
  | (d,c,a,b)=>cond (decide (c<(x81.length:Int))) ((get x81 c).bind fun x110=>cond (decide (x110.1<0)) (some (.inr (.inr false))) (cond (decide ((e.length:Int)≤x110.1)) (some (.inr (.inr false))) (cond x110.2 ((get a x110.1).bind fun x137=>cond x137 (some (.inr (.inr false))) ((get a x110.1).bind fun x147=>(chk (d+1)).bind fun z154=>(chk (c+1)).bind fun z156=>some (.inl (z154,z156,(a.set x110.1.toNat true),b)))) ((get b x110.1).bind fun x160=>cond x160 (some (.inr (.inr false))) ((get b x110.1).bind fun x169=>(chk (d+1)).bind fun z176=>(chk (c+1)).bind fun z178=>some (.inl (z176,z178,a,(b.set x110.1.toNat true)))))))) (some (.inr (.inl (d,c,a,b))))

def gauss_Valid_b1 (n:Nat) (d:List (List (Int×Bool))) (h:List Int):Int×Int×(List Bool)×(List Bool)→Option ((Int×Int×(List Bool)×(List Bool))⊕((Int×Int×(List Bool)×(List Bool))⊕(Bool)))
  | (e,a,b,c)=>cond (decide (a<(d.length:Int))) ((get d a).bind fun x81=>cond (decide ((x81.length:Int)=0)) (some (.inr (.inr false))) (((loopN n (F.gauss_Valid_b2 n h x81) (e,0,b,c)).bind fun o98=>match o98 with
    | (.inl (i,j,f,g))=>(chk (a+1)).bind fun z182=>some (.inl (i,z182,f,g))
    | (.inr q)=>some (.inr (.inr q))))) (some (.inr (.inl (e,a,b,c))))

def gauss_Valid_b0 (n:Nat) (b:List Int):Int→Option ((Int)⊕((Int)⊕(Bool)))
  | a=>cond (decide (a<(b.length:Int))) ((get b a).bind fun x31=>cond (!(decide (x31=1))) (cond (!(decide (x31=(-1)))) (some (.inr (.inr false))) ((chk (a+1)).bind fun z41=>some (.inl z41))) ((chk (a+1)).bind fun z43=>some (.inl z43))) (some (.inr (.inl a)))

def gauss_Valid (n:Nat) (c:List (List (Int×Bool))) (a:List Int) (b:Int):Option (Bool):=
  cond (decide (64<(a.length:Int))) (some false) (cond (decide (b<0)) (some false) (cond (decide (64<b)) (some false) (((loopN n (F.gauss_Valid_b0 n a) 0).bind fun o19=>match o19 with
    | (.inl g)=>(pos (a.length:Int)).bind fun u48=>(pos (a.length:Int)).bind fun u57=>((loopN n (F.gauss_Valid_b1 n c a) (0,0,(List.replicate (a.length:Int).toNat false),(List.replicate (a.length:Int).toNat false))).bind fun o69=>match o69 with
    | (.inl (d,h,e,f))=>(chk (2*(a.length:Int))).bind fun z187=>some (decide (d=z187))
    | (.inr q)=>some q)
    | (.inr q)=>some q))))


def gauss_ends (n:Nat) (d:List (List (Int×Bool))) (c:List Int) (e:Int) (a:Int) (b:Bool):Option (Int×Int):=
  (chk (4*a)).bind fun z11=>cond (!b) ((chk (z11+2)).bind fun z18=>some (z11,z18)) ((get c a).bind fun x21=>cond (decide (x21=1)) ((chk (z11+3)).bind fun z29=>(chk (z11+1)).bind fun z31=>some (z29,z31)) ((chk (z11+1)).bind fun z34=>(chk (z11+3)).bind fun z36=>some (z34,z36)))

def gauss_mates_b1 (n:Nat) (c:List (List (Int×Bool))) (d:List Int) (e:Int) (x33:List (Int×Bool)):Int×(List Int)→Option ((Int×(List Int))⊕((Int×(List Int))))
  | (a,b)=>cond (decide (a<(x33.length:Int))) ((get x33 a).bind fun x57=>(F.gauss_ends n c d e x57.1 x57.2).bind fun y72=>(chk (a+1)).bind fun z81=>(nz (x33.length:Int)).bind fun u83=>(get x33 (Int.tmod z81 (x33.length:Int))).bind fun x85=>(F.gauss_ends n c d e x85.1 x85.2).bind fun y96=>(get b y72.2).bind fun x103=>(get (b.set y72.2.toNat y96.1) y96.1).bind fun x110=>(chk (a+1)).bind fun z117=>some (.inl (z117,((b.set y72.2.toNat y96.1).set y96.1.toNat y72.2)))) (some (.inr (a,b)))

def gauss_mates_b0 (n:Nat) (b:List (List (Int×Bool))) (e:List Int) (f:Int):Int×(List Int)→Option ((Int×(List Int))⊕((Int×(List Int))))
  | (a,c)=>cond (decide (a<(b.length:Int))) ((get b a).bind fun x33=>((loopN n (F.gauss_mates_b1 n b e f x33) (0,c)).bind fun o45=>match o45 with
    | (g,d)=>(chk (a+1)).bind fun z121=>some (.inl (z121,d)))) (some (.inr (a,c)))

def gauss_mates (n:Nat) (c:List (List (Int×Bool))) (a:List Int) (d:Int):Option ((List Int)):=
  (chk (4*(a.length:Int))).bind fun z8=>(pos z8).bind fun u10=>((loopN n (F.gauss_mates_b0 n c a d) (0,(List.replicate z8.toNat (0:Int)))).bind fun o21=>match o21 with
    | (e,b)=>some b)


def diagram_Turn (n:Nat) (a:Int) (b:Int):Option (Int):=
  cond (decide (a<0)) (some (-1)) ((nz 4).bind fun u7=>(chk (a-(Int.tmod a 4))).bind fun z9=>(nz 4).bind fun u11=>(nz 4).bind fun u13=>(chk ((Int.tmod a 4)+(Int.tmod b 4))).bind fun z15=>(chk (z15+4)).bind fun z17=>(nz 4).bind fun u19=>(chk (z9+(Int.tmod z17 4))).bind fun z21=>some z21)

def gauss_genus_b1 (n:Nat) (c:List Int):Int×(List Bool)→Option ((Int×(List Bool))⊕((Int×(List Bool))))
  | (b,a)=>(get a b).bind fun x58=>cond (!x58) ((get a b).bind fun x66=>(get c b).bind fun x73=>(F.diagram_Turn n x73 (-1)).bind fun y79=>some (.inl (y79,(a.set b.toNat true)))) (some (.inr (b,a)))

def gauss_genus_b4 (n:Nat) (d:List Int) (x155:Int):(List Int)×Int×(List Bool)→Option (((List Int)×Int×(List Bool))⊕(((List Int)×Int×(List Bool))))
  | (c,b,a)=>cond (decide (b<4)) ((chk (4*x155)).bind fun z183=>(chk (z183+b)).bind fun z185=>(get d z185).bind fun x187=>(nz 4).bind fun u193=>(chk (Int.tdiv x187 4)).bind fun z195=>(get a z195).bind fun x199=>cond (!x199) ((get a z195).bind fun x207=>(lim (c.length+([z195]:List Int).length)).bind fun u220=>(chk (b+1)).bind fun z227=>some (.inl ((c++([z195]:List Int)),z227,(a.set z195.toNat true)))) ((chk (b+1)).bind fun z229=>some (.inl (c,z229,a)))) (some (.inr (c,b,a)))

def gauss_genus_b3 (n:Nat) (c:List Int):(List Int)×(List Bool)→Option (((List Int)×(List Bool))⊕(((List Int)×(List Bool))))
  | (a,b)=>cond (decide (0<(a.length:Int))) ((chk ((a.length:Int)-1)).bind fun z153=>(get a z153).bind fun x155=>(chk ((a.length:Int)-1)).bind fun z163=>(cut 0 z163 a.length).bind fun u165=>((loopN n (F.gauss_genus_b4 n c x155) ((a.take z163.toNat),0,b)).bind fun o170=>match o170 with
    | (e,f,d)=>some (.inl (e,d)))) (some (.inr (a,b)))

def gauss_genus_b2 (n:Nat) (d:List Int) (z6:Int):Int×Int×(List Bool)→Option ((Int×Int×(List Bool))⊕((Int×Int×(List Bool))))
  | (c,a,b)=>cond (decide (a<z6)) ((get b a).bind fun x114=>cond x114 ((chk (a+1)).bind fun z121=>some (.inl (c,z121,b))) ((chk (c+1)).bind fun z124=>(get b a).bind fun x128=>((loopN n (F.gauss_genus_b3 n d) (([a]:List Int),(b.set a.toNat true))).bind fun o142=>match o142 with
    | (f,e)=>(chk (a+1)).bind fun z235=>some (.inl (z124,z235,e))))) (some (.inr (c,a,b)))

def gauss_genus_b0 (n:Nat) (c:List Int):Int×Int×(List Bool)→Option ((Int×Int×(List Bool))⊕((Int×Int×(List Bool))))
  | (d,a,b)=>cond (decide (a<(c.length:Int))) ((get b a).bind fun x35=>cond x35 ((chk (a+1)).bind fun z42=>some (.inl (d,z42,b))) ((chk (d+1)).bind fun z45=>((loopN n (F.gauss_genus_b1 n c) (a,b)).bind fun o49=>match o49 with
    | (f,e)=>(chk (a+1)).bind fun z85=>some (.inl (z45,z85,e))))) (some (.inr (d,a,b)))

def gauss_genus (n:Nat) (a:List Int):Option (Int):=
  (nz 4).bind fun u4=>(chk (Int.tdiv (a.length:Int) 4)).bind fun z6=>(pos (a.length:Int)).bind fun u10=>((loopN n (F.gauss_genus_b0 n a) (0,0,(List.replicate (a.length:Int).toNat false))).bind fun o21=>match o21 with
    | (b,f,d)=>(pos z6).bind fun u90=>((loopN n (F.gauss_genus_b2 n a z6) (0,0,(List.replicate z6.toNat false))).bind fun o100=>match o100 with
    | (c,g,e)=>(chk (2*c)).bind fun z240=>(chk (z240+z6)).bind fun z242=>(chk (z242-b)).bind fun z244=>(nz 2).bind fun u246=>(chk (Int.tdiv z244 2)).bind fun z248=>some z248))


def slices_Clone_Lint_int (n:Nat) (a:List Int):Option ((List Int)):=
  (lim (([]:List Int).length+a.length)).bind fun u16=>some (([]:List Int)++a)


def gauss_Diagram (n:Nat) (c:List (List (Int×Bool))) (a:List Int) (b:Int):Option ((List Int)×(List Int)×Int×Int):=
  (F.gauss_Valid n c a b).bind fun y12=>cond (!y12) (some ([],[],0,1)) ((F.gauss_mates n c a b).bind fun y21=>(F.gauss_genus n y21).bind fun y32=>cond (!(decide (y32=0))) (some ([],[],0,7)) ((F.slices_Clone_Lint_int n a).bind fun y45=>some (y45,y21,b,0)))

def polygon_Project_b0 (n:Nat) (y27:(List (List (Int×Bool)))×Bool):Int×Int→Option ((Int×Int)⊕((Int×Int)))
  | (b,a)=>cond (decide (a<(y27.1.length:Int))) ((get y27.1 a).bind fun x59=>(chk (b+(x59.length:Int))).bind fun z70=>(chk (a+1)).bind fun z72=>some (.inl (z70,z72))) (some (.inr (b,a)))

def polygon_Project (n:Nat) (a:List (List (Int×(Int×Int)))):Option ((List Int)×(List Int)×Int×Int):=
  (F.polygon_valid n a).bind fun y8=>cond (!y8) (some ([],[],0,1)) ((F.polygon_edges n a).bind fun y17=>(F.polygon_cross n y17).bind fun y27=>cond (!y27.2) (some ([],[],0,15)) (((loopN n (F.polygon_Project_b0 n y27) (0,0)).bind fun o47=>match o47 with
    | (b,c)=>cond (decide (128<b)) (some ([],[],0,5)) ((F.polygon_code n a y17 y27.1).bind fun y84=>(F.gauss_Diagram n y84.1 y84.2.1 y84.2.2).bind fun y100=>some (y100.1,y100.2.1,y100.2.2.1,y100.2.2.2)))))


def polygon_Generic (n:Nat) (a:List (List (Int×(Int×Int)))):Option (Bool):=
  (F.polygon_valid n a).bind fun y5=>cond (!y5) (some false) ((F.polygon_edges n a).bind fun y11=>(F.polygon_cross n y11).bind fun y20=>some y20.2)


def law46_awake (n:Nat):Option (Bool):=
  (F.polygon_Project n ([([(0,(0,0)),(10,(10,0)),(10,(0,5)),(0,(10,5))]:List (Int×(Int×Int)))]:List (List (Int×(Int×Int))))).bind fun y16=>cond (decide (y16.2.2.2=0)) (cond (decide ((y16.1.length:Int)=1)) ((get y16.1 0).bind fun x41=>cond (decide (x41=(-1))) (cond (decide (y16.2.2.1=0)) ((F.polygon_Generic n ([([(0,(0,0)),(10,(10,0)),(10,(0,5)),(0,(10,5))]:List (Int×(Int×Int)))]:List (List (Int×(Int×Int))))).bind fun y49=>some y49) (some false)) (some false)) (some false)) (some false)


def law46_few_b0 (n:Nat) (c:List (List (Int×(Int×Int)))):Int×Int→Option ((Int×Int)⊕((Int×Int)))
  | (b,a)=>cond (decide (a<(c.length:Int))) ((get c a).bind fun x18=>(chk (b+(x18.length:Int))).bind fun z29=>(chk (a+1)).bind fun z31=>some (.inl (z29,z31))) (some (.inr (b,a)))

def law46_few (n:Nat) (a:List (List (Int×(Int×Int)))):Option (Bool):=
  ((loopN n (F.law46_few_b0 n a) (0,0)).bind fun o6=>match o6 with
    | (b,c)=>cond (decide ((a.length:Int)≤24)) (some (decide (b≤24))) (some false))

def law46_generic (n:Nat) (a:List (List (Int×(Int×Int)))):Option ((List Int)×(List Int)×Int×Bool):=
  (F.law46_few n a).bind fun y8=>cond (!y8) (some ([],[],0,false)) ((F.polygon_Project n a).bind fun y17=>some (y17.1,y17.2.1,y17.2.2.1,(decide (y17.2.2.2=0))))


def slices_Equal_Lint_int_b0 (n:Nat) (b:List Int) (c:List Int):Int→Option ((Int)⊕((Int)⊕(Bool)))
  | a=>cond (decide (a<(b.length:Int))) ((get b a).bind fun x25=>(get c a).bind fun x32=>cond (!(decide (x25=x32))) (some (.inr (.inr false))) ((chk (a+1)).bind fun z41=>some (.inl z41))) (some (.inr (.inl a)))

def slices_Equal_Lint_int (n:Nat) (a:List Int) (b:List Int):Option (Bool):=
  cond (!(decide ((a.length:Int)=(b.length:Int)))) (some false) (((loopN n (F.slices_Equal_Lint_int_b0 n a b) 0).bind fun o10=>match o10 with
    | (.inl c)=>some true
    | (.inr q)=>some q))


def diagram_outgoing (n:Nat) (b:List Int) (c:List Int) (d:Int) (a:Int):Option (Bool):=
  (nz 4).bind fun u9=>cond (decide ((Int.tmod a 4)=1)) ((nz 4).bind fun u14=>(chk (Int.tdiv a 4)).bind fun z16=>(get b z16).bind fun x18=>some (decide (x18=1))) (cond (decide ((Int.tmod a 4)=2)) (some true) (cond (decide ((Int.tmod a 4)=3)) ((nz 4).bind fun u31=>(chk (Int.tdiv a 4)).bind fun z33=>(get b z33).bind fun x35=>some (decide (x35=(-1)))) (some false)))

def diagram_label_b3 (n:Nat) (d:List Int) (e:Int) (x96:Int):(List Int)×Int×(List Int)→Option (((List Int)×Int×(List Int))⊕(((List Int)×Int×(List Int))))
  | (c,b,a)=>cond (decide (b<4)) ((chk (4*x96)).bind fun z125=>(chk (z125+b)).bind fun z127=>(get d z127).bind fun x129=>(nz 4).bind fun u135=>(chk (Int.tdiv x129 4)).bind fun z137=>(get a z137).bind fun x141=>cond (decide (x141<0)) ((get a z137).bind fun x149=>(lim (c.length+([z137]:List Int).length)).bind fun u162=>(chk (b+1)).bind fun z169=>some (.inl ((c++([z137]:List Int)),z169,(a.set z137.toNat e)))) ((chk (b+1)).bind fun z171=>some (.inl (c,z171,a)))) (some (.inr (c,b,a)))

def diagram_label_b2 (n:Nat) (d:List Int) (e:Int):(List Int)×(List Int)→Option (((List Int)×(List Int))⊕(((List Int)×(List Int))))
  | (a,b)=>cond (decide (0<(a.length:Int))) ((get a 0).bind fun x96=>(cut 1 (a.length:Int) a.length).bind fun u103=>((loopN n (F.diagram_label_b3 n d e x96) ((a.drop (1:Int).toNat),0,b)).bind fun o112=>match o112 with
    | (f,g,c)=>some (.inl (f,c)))) (some (.inr (a,b)))

def diagram_label_b1 (n:Nat) (e:List Int) (f:List Int):Int×Int×(List Int)→Option ((Int×Int×(List Int))⊕((Int×Int×(List Int))))
  | (c,a,b)=>cond (decide (a<(((List.replicate (e.length:Int).toNat (0:Int))).length:Int))) ((get b a).bind fun x59=>cond (decide (0≤x59)) ((chk (a+1)).bind fun z66=>some (.inl (c,z66,b))) ((get b a).bind fun x69=>((loopN n (F.diagram_label_b2 n f c) (([a]:List Int),(b.set a.toNat c))).bind fun o85=>match o85 with
    | (g,d)=>(chk (c+1)).bind fun z177=>(chk (a+1)).bind fun z179=>some (.inl (z177,z179,d))))) (some (.inr (c,a,b)))

def diagram_label_b0 (n:Nat) (c:List Int):Int×(List Int)→Option ((Int×(List Int))⊕((Int×(List Int))))
  | (a,b)=>cond (decide (a<(((List.replicate (c.length:Int).toNat (0:Int))).length:Int))) ((get b a).bind fun x31=>(chk (a+1)).bind fun z38=>some (.inl (z38,(b.set a.toNat (-1))))) (some (.inr (a,b)))

def diagram_label (n:Nat) (a:List Int) (d:List Int) (f:Int):Option ((List Int)×Int):=
  (pos (a.length:Int)).bind fun u8=>((loopN n (F.diagram_label_b0 n a) (0,(List.replicate (a.length:Int).toNat (0:Int)))).bind fun o19=>match o19 with
    | (g,b)=>((loopN n (F.diagram_label_b1 n a d) (0,0,b)).bind fun o45=>match o45 with
    | (e,h,c)=>some (c,e)))

def diagram_spherical_b2 (n:Nat) (c:List Int):Int×(List Bool)→Option ((Int×(List Bool))⊕((Int×(List Bool))))
  | (a,b)=>(get b a).bind fun x138=>cond (!x138) ((get b a).bind fun x146=>(get c a).bind fun x153=>(F.diagram_Turn n x153 (-1)).bind fun y159=>some (.inl (y159,(b.set a.toNat true)))) (some (.inr (a,b)))

def diagram_spherical_b3 (n:Nat) (y8:(List Int)×Int) (b:List Int):Int→Option ((Int)⊕((Int)⊕(Bool)))
  | a=>cond (decide (a<(((List.replicate y8.2.toNat (0:Int))).length:Int))) ((get b a).bind fun x183=>cond (!(decide (x183=2))) (some (.inr (.inr false))) ((chk (a+1)).bind fun z192=>some (.inl z192))) (some (.inr (.inl a)))

def diagram_spherical_b1 (n:Nat) (d:List Int) (y8:(List Int)×Int):Int×(List Int)×(List Bool)→Option ((Int×(List Int)×(List Bool))⊕((Int×(List Int)×(List Bool))))
  | (a,b,c)=>cond (decide (a<(d.length:Int))) ((get c a).bind fun x92=>cond x92 ((chk (a+1)).bind fun z99=>some (.inl (z99,b,c))) ((nz 4).bind fun u102=>(chk (Int.tdiv a 4)).bind fun z104=>(get y8.1 z104).bind fun x106=>(get b x106).bind fun x112=>(chk (x112+1)).bind fun z118=>(get b x106).bind fun x120=>((loopN n (F.diagram_spherical_b2 n d) (a,c)).bind fun o129=>match o129 with
    | (f,e)=>(chk (a+1)).bind fun z165=>some (.inl (z165,(b.set x106.toNat z118),e))))) (some (.inr (a,b,c)))

def diagram_spherical_b0 (n:Nat) (y8:(List Int)×Int):Int×(List Int)→Option ((Int×(List Int))⊕((Int×(List Int))))
  | (b,a)=>cond (decide (b<(y8.1.length:Int))) ((get y8.1 b).bind fun x42=>(get a x42).bind fun x48=>(chk (x48-1)).bind fun z54=>(get a x42).bind fun x56=>(chk (b+1)).bind fun z63=>some (.inl (z63,(a.set x42.toNat z54)))) (some (.inr (b,a)))

def diagram_spherical (n:Nat) (d:List Int) (a:List Int) (e:Int):Option (Bool):=
  (F.diagram_label n d a e).bind fun y8=>(pos y8.2).bind fun u19=>((loopN n (F.diagram_spherical_b0 n y8) (0,(List.replicate y8.2.toNat (0:Int)))).bind fun o30=>match o30 with
    | (g,b)=>(pos (a.length:Int)).bind fun u68=>((loopN n (F.diagram_spherical_b1 n a y8) (0,b,(List.replicate (a.length:Int).toNat false))).bind fun o78=>match o78 with
    | (h,c,f)=>((loopN n (F.diagram_spherical_b3 n y8 c) 0).bind fun o171=>match o171 with
    | (.inl i)=>some true
    | (.inr q)=>some q)))

def diagram_Valid_b1 (n:Nat) (c:List Int) (b:List Int) (d:Int):Int→Option ((Int)⊕((Int)⊕(Bool)))
  | a=>cond (decide (a<(b.length:Int))) ((get b a).bind fun x65=>cond (decide (x65<0)) (some (.inr (.inr false))) ((chk (4*(c.length:Int))).bind fun z75=>cond (decide (z75≤x65)) (some (.inr (.inr false))) (cond (decide (x65=a)) (some (.inr (.inr false))) ((get b x65).bind fun x81=>cond (!(decide (x81=a))) (some (.inr (.inr false))) ((F.diagram_outgoing n c b d a).bind fun y93=>(F.diagram_outgoing n c b d x65).bind fun y96=>cond (y93 == y96) (some (.inr (.inr false))) ((chk (a+1)).bind fun z101=>some (.inl z101))))))) (some (.inr (.inl a)))

def diagram_Valid_b0 (n:Nat) (b:List Int):Int→Option ((Int)⊕((Int)⊕(Bool)))
  | a=>cond (decide (a<(b.length:Int))) ((get b a).bind fun x35=>cond (!(decide (x35=1))) (cond (!(decide (x35=(-1)))) (some (.inr (.inr false))) ((chk (a+1)).bind fun z45=>some (.inl z45))) ((chk (a+1)).bind fun z47=>some (.inl z47))) (some (.inr (.inl a)))

def diagram_Valid (n:Nat) (a:List Int) (c:List Int) (b:Int):Option (Bool):=
  cond (decide (64<(a.length:Int))) (some false) ((chk (4*(a.length:Int))).bind fun z12=>cond (!(decide ((c.length:Int)=z12))) (some false) (cond (decide (b<0)) (some false) (cond (decide (64<b)) (some false) (((loopN n (F.diagram_Valid_b0 n a) 0).bind fun o23=>match o23 with
    | (.inl d)=>((loopN n (F.diagram_Valid_b1 n a c b) 0).bind fun o53=>match o53 with
    | (.inl e)=>(F.diagram_spherical n a c b).bind fun y106=>some y106
    | (.inr q)=>some q)
    | (.inr q)=>some q)))))


def slices_Grow_Point_Point_nil (n:Nat) (a:Int):Option ((List (Int×(Int×Int)))):=
  cond (decide (a<0)) (none) ((chk (0-0)).bind fun z7=>(chk (a-z7)).bind fun z9=>cond (decide (0<z9)) ((posz z9).bind fun u14=>(cut 0 0 (List.replicate z9.toNat ((0:Int),((0:Int),(0:Int)))).length).bind fun u22=>some ((List.replicate z9.toNat ((0:Int),((0:Int),(0:Int)))).take (0:Int).toNat)) (some ([])))

def slices_Concat_Point_Point_b1 (n:Nat) (b:List (List (Int×(Int×Int)))):(List (Int×(Int×Int)))×Int→Option (((List (Int×(Int×Int)))×Int)⊕(((List (Int×(Int×Int)))×Int)))
  | (c,a)=>cond (decide (a<(b.length:Int))) ((get b a).bind fun x63=>(lim (c.length+x63.length)).bind fun u74=>(chk (a+1)).bind fun z81=>some (.inl ((c++x63),z81))) (some (.inr (c,a)))

def slices_Concat_Point_Point_b0 (n:Nat) (b:List (List (Int×(Int×Int)))):Int×Int→Option ((Int×Int)⊕((Int×Int)))
  | (c,a)=>cond (decide (a<(b.length:Int))) ((get b a).bind fun x18=>(chk (c+(x18.length:Int))).bind fun z30=>cond (decide (z30<0)) (none) ((chk (a+1)).bind fun z35=>some (.inl (z30,z35)))) (some (.inr (c,a)))

def slices_Concat_Point_Point (n:Nat) (a:List (List (Int×(Int×Int)))):Option ((List (Int×(Int×Int)))):=
  ((loopN n (F.slices_Concat_Point_Point_b0 n a) (0,0)).bind fun o6=>match o6 with
    | (b,d)=>(F.slices_Grow_Point_Point_nil n b).bind fun y40=>((loopN n (F.slices_Concat_Point_Point_b1 n a) (y40,0)).bind fun o51=>match o51 with
    | (c,e)=>some c))


def slices_Clone_Point_Point (n:Nat) (a:List (Int×(Int×Int))):Option ((List (Int×(Int×Int)))):=
  (lim (([]:List (Int×(Int×Int))).length+a.length)).bind fun u16=>some (([]:List (Int×(Int×Int)))++a)

def slices_Reverse_Point_Point_b0 (n:Nat):Int×Int×(List (Int×(Int×Int)))→Option ((Int×Int×(List (Int×(Int×Int))))⊕((Int×Int×(List (Int×(Int×Int))))))
  | (b,c,a)=>cond (decide (b<c)) ((get a c).bind fun x18=>(get a b).bind fun x33=>(get a b).bind fun x48=>(get (a.set b.toNat (x18.1,(x18.2.1,x18.2.2))) c).bind fun x56=>(chk (b+1)).bind fun z64=>(chk (c-1)).bind fun z66=>some (.inl (z64,z66,((a.set b.toNat (x18.1,(x18.2.1,x18.2.2))).set c.toNat (x33.1,(x33.2.1,x33.2.2)))))) (some (.inr (b,c,a)))

def slices_Reverse_Point_Point (n:Nat) (b:List (Int×(Int×Int))):Option ((List (Int×(Int×Int)))):=
  (chk ((b.length:Int)-1)).bind fun z3=>((loopN n (F.slices_Reverse_Point_Point_b0 n) (0,z3,b)).bind fun o5=>match o5 with
    | (c,d,a)=>some a)


def mirror_Reverse_c2 (n:Nat) (a:Int):Option (Int):=
  some 1


def mirror_Reverse_c1 (n:Nat) (a:Int) (b:Int):Option (Int):=
  some 2


def mirror_move_c1_v3 (n:Nat) (a:Int):Option (Int):=
  (nz 4).bind fun u4=>(chk (Int.tdiv a 4)).bind fun z6=>(nz 4).bind fun u8=>(F.mirror_Reverse_c1 n z6 (Int.tmod a 4)).bind fun y10=>(F.diagram_Turn n a y10).bind fun y14=>some y14

def mirror_move_mirror_Reverse_c1_mirror_Reverse_c2_b2 (n:Nat) (c:List Int):Int×(List Int)→Option ((Int×(List Int))⊕((Int×(List Int))))
  | (b,a)=>cond (decide (b<(c.length:Int))) ((get c b).bind fun x174=>(F.mirror_move_c1_v3 n b).bind fun y182=>(F.mirror_move_c1_v3 n x174).bind fun y186=>(get a y182).bind fun x190=>(chk (b+1)).bind fun z198=>some (.inl (z198,(a.set y182.toNat y186)))) (some (.inr (b,a)))

def mirror_move_mirror_Reverse_c1_mirror_Reverse_c2_b1 (n:Nat) (c:List Int):Int×(List Int)→Option ((Int×(List Int))⊕((Int×(List Int))))
  | (a,b)=>cond (decide (a<(c.length:Int))) ((get c a).bind fun x134=>(F.mirror_Reverse_c2 n a).bind fun y142=>(chk (x134*y142)).bind fun z146=>(get b a).bind fun x148=>(chk (a+1)).bind fun z156=>some (.inl (z156,(b.set a.toNat z146)))) (some (.inr (a,b)))

def mirror_move_mirror_Reverse_c1_mirror_Reverse_c2_j0 (n:Nat) (e:List Int) (f:List Int) (g:Int) (c:List Int) (d:List Int):Option ((List Int)×(List Int)×Int):=
  ((loopN n (F.mirror_move_mirror_Reverse_c1_mirror_Reverse_c2_b1 n e) (0,c)).bind fun o122=>match o122 with
    | (h,a)=>((loopN n (F.mirror_move_mirror_Reverse_c1_mirror_Reverse_c2_b2 n f) (0,d)).bind fun o162=>match o162 with
    | (i,b)=>some (a,b,g)))

def mirror_move_mirror_Reverse_c1_mirror_Reverse_c2 (n:Nat) (a:List Int) (b:List Int) (c:Int):Option ((List Int)×(List Int)×Int):=
  (pos (a.length:Int)).bind fun u17=>(pos (b.length:Int)).bind fun u25=>F.mirror_move_mirror_Reverse_c1_mirror_Reverse_c2_j0 n a b c (List.replicate (a.length:Int).toNat (0:Int)) (List.replicate (b.length:Int).toNat (0:Int))


def mirror_Reverse (n:Nat) (a:List Int) (b:List Int) (c:Int):Option ((List Int)×(List Int)×Int×Int):=
  (F.diagram_Valid n a b c).bind fun y12=>cond (!y12) (some ([],[],0,1)) ((F.mirror_move_mirror_Reverse_c1_mirror_Reverse_c2 n a b c).bind fun y22=>some (y22.1,y22.2.1,y22.2.2,0))

def diagram_Graph_b0 (n:Nat) (y16:(List Int)×Int):Int×(List (List Int))→Option ((Int×(List (List Int)))⊕((Int×(List (List Int)))))
  | (a,b)=>cond (decide (a<(y16.1.length:Int))) ((get y16.1 a).bind fun x50=>(get b x50).bind fun x56=>(lim (x56.length+([a]:List Int).length)).bind fun u76=>(get b x50).bind fun x83=>(chk (a+1)).bind fun z93=>some (.inl (z93,(b.set x50.toNat (x56++([a]:List Int)))))) (some (.inr (a,b)))

def diagram_Graph (n:Nat) (a:List Int) (b:List Int) (c:Int):Option ((List (List Int))):=
  (F.diagram_Valid n a b c).bind fun y9=>cond (!y9) (some ([])) ((F.diagram_label n a b c).bind fun y16=>(pos y16.2).bind fun u28=>((loopN n (F.diagram_Graph_b0 n y16) (0,(List.replicate y16.2.toNat ([]:List Int)))).bind fun o38=>match o38 with
    | (e,d)=>some d))


def cmp_isNaN_int (n:Nat) (a:Int):Option (Bool):=
  some (!(decide (a=a)))


def cmp_Compare_int (n:Nat) (a:Int) (b:Int):Option (Int):=
  (F.cmp_isNaN_int n a).bind fun y3=>(F.cmp_isNaN_int n b).bind fun y7=>cond y3 (cond y7 (some 0) (some (-1))) (cond y7 (some 1) (cond (decide (a<b)) (some (-1)) (cond (decide (b<a)) (some 1) (some 0))))

def slices_Compare_Lint_int_b0 (n:Nat) (b:List Int) (c:List Int):Int→Option ((Int)⊕((Int)⊕(Int)))
  | a=>cond (decide (a<(b.length:Int))) ((get b a).bind fun x18=>cond (decide ((c.length:Int)≤a)) (some (.inr (.inr 1))) ((get c a).bind fun x30=>(F.cmp_Compare_int n x18 x30).bind fun y37=>cond (!(decide (y37=0))) (some (.inr (.inr y37))) ((chk (a+1)).bind fun z45=>some (.inl z45)))) (some (.inr (.inl a)))

def slices_Compare_Lint_int (n:Nat) (a:List Int) (b:List Int):Option (Int):=
  ((loopN n (F.slices_Compare_Lint_int_b0 n a b) 0).bind fun o6=>match o6 with
    | (.inl c)=>cond (decide ((a.length:Int)<(b.length:Int))) (some (-1)) (some 0)
    | (.inr q)=>some q)

def canon_number_j4 (n:Nat) (b:List Int) (c:Int) (x126:Int) (d:List Int) (e:Bool) (a:List Int):Option (((List Int)×(List Int)×Int×(List Int))⊕(((List Int)×(List Int)×Int×(List Int)))):=
  (nz 4).bind fun u178=>(chk (Int.tdiv x126 4)).bind fun z180=>(get a z180).bind fun x182=>(chk (4*x182)).bind fun z188=>(nz 4).bind fun u190=>(chk (z188+(Int.tmod x126 4))).bind fun z192=>(lim (b.length+([z192]:List Int).length)).bind fun u200=>(chk (c+1)).bind fun z207=>some (.inl (d,(b++([z192]:List Int)),z207,a))

def canon_number_b3 (n:Nat) (e:List Int) (x80:Int):(List Int)×(List Int)×Int×(List Int)→Option (((List Int)×(List Int)×Int×(List Int))⊕(((List Int)×(List Int)×Int×(List Int))))
  | (b,d,c,a)=>cond (decide (c<4)) ((chk (4*x80)).bind fun z122=>(chk (z122+c)).bind fun z124=>(get e z124).bind fun x126=>(nz 4).bind fun u135=>(chk (Int.tdiv x126 4)).bind fun z137=>(get a z137).bind fun x139=>cond (decide (x139<0)) ((nz 4).bind fun u147=>(chk (Int.tdiv x126 4)).bind fun z149=>(get a z149).bind fun x151=>(nz 4).bind fun u159=>(chk (Int.tdiv x126 4)).bind fun z161=>(lim (b.length+([z161]:List Int).length)).bind fun u169=>F.canon_number_j4 n d c x126 (b++([z161]:List Int)) (decide (x139<0)) (a.set z149.toNat (b.length:Int))) (F.canon_number_j4 n d c x126 b (decide (x139<0)) a)) (some (.inr (b,d,c,a)))

def canon_number_b2 (n:Nat) (j:List Int) (k:List Int) (f:List Int):(List Int)×(List Int)×Int×Int×(List Int)→Option (((List Int)×(List Int)×Int×Int×(List Int))⊕(((List Int)×(List Int)×Int×Int×(List Int))⊕((List Int)×(List Int)×Int)))
  | (c,e,d,a,g)=>cond (decide (a<(c.length:Int))) ((get c a).bind fun x80=>(get j x80).bind fun x87=>(lim (e.length+([x87]:List Int).length)).bind fun u99=>((loopN n (F.canon_number_b3 n k x80) (c,(e++([x87]:List Int)),0,g)).bind fun o109=>match o109 with
    | (i,b,l,h)=>cond (decide (d=0)) ((chk (5*a)).bind fun z216=>(cut z216 (b.length:Int) b.length).bind fun u218=>(chk (5*a)).bind fun z227=>(chk (5*a)).bind fun z229=>(chk (z229+5)).bind fun z231=>(cut z227 z231 f.length).bind fun u233=>(F.slices_Compare_Lint_int n ((b.drop z216.toNat).take ((b.length:Int).toNat-z216.toNat)) ((f.drop z227.toNat).take (z231.toNat-z227.toNat))).bind fun y242=>cond (decide (0<y242)) (some (.inr (.inr ([],[],1)))) ((chk (a+1)).bind fun z252=>some (.inl (i,b,y242,z252,h)))) (cond (decide (0<d)) (some (.inr (.inr ([],[],1)))) ((chk (a+1)).bind fun z259=>some (.inl (i,b,d,z259,h)))))) (some (.inr (.inl (c,e,d,a,g))))

def canon_number_j1 (n:Nat) (d:List Int) (e:List Int) (a:Int) (b:List Int) (c:List Int) (f:Int):Option ((List Int)×(List Int)×Int):=
  ((loopN n (F.canon_number_b2 n d e b) (([a]:List Int),([]:List Int),f,0,(c.set a.toNat 0))).bind fun o68=>match o68 with
    | (.inl (g,h,i,k,j))=>some (h,g,i)
    | (.inr q)=>some q)

def canon_number_b0 (n:Nat) (c:List Int):Int×(List Int)→Option ((Int×(List Int))⊕((Int×(List Int))))
  | (a,b)=>cond (decide (a<(((List.replicate (c.length:Int).toNat (0:Int))).length:Int))) ((get b a).bind fun x32=>(chk (a+1)).bind fun z39=>some (.inl (z39,(b.set a.toNat (-1))))) (some (.inr (a,b)))

def canon_number (n:Nat) (a:List Int) (e:List Int) (f:Int) (b:Int) (c:List Int):Option ((List Int)×(List Int)×Int):=
  (pos (a.length:Int)).bind fun u9=>((loopN n (F.canon_number_b0 n a) (0,(List.replicate (a.length:Int).toNat (0:Int)))).bind fun o20=>match o20 with
    | (g,d)=>(get d b).bind fun x51=>cond (c.isEmpty) (F.canon_number_j1 n a e b c d (-1)) (F.canon_number_j1 n a e b c d 0))


def canon_pieces_c1 (n:Nat) (c:List Int) (a:List Int) (e:Int) (d:List Int) (b:List Int) (f:Int):Option (Int):=
  cond (!(decide ((a.length:Int)=(b.length:Int)))) ((chk ((a.length:Int)-(b.length:Int))).bind fun z17=>some z17) ((F.slices_Compare_Lint_int n c d).bind fun y20=>some y20)

def slices_insertionSortCmpFunc_piece_canon_pieces_c1_b1 (n:Nat) (c:Int):Int×(List ((List Int)×((List Int)×Int)))→Option ((Int×(List ((List Int)×((List Int)×Int))))⊕((Int×(List ((List Int)×((List Int)×Int))))))
  | (a,b)=>cond (decide (c<a)) ((get b a).bind fun x29=>(chk (a-1)).bind fun z54=>(get b z54).bind fun x56=>(F.canon_pieces_c1 n x29.1 x29.2.1 x29.2.2 x56.1 x56.2.1 x56.2.2).bind fun y81=>cond (decide (y81<0)) ((chk (a-1)).bind fun z90=>(chk (a-1)).bind fun z92=>(get b z92).bind fun x94=>(get b a).bind fun x119=>(get b a).bind fun x144=>(get (b.set a.toNat (x94.1,(x94.2.1,x94.2.2))) z90).bind fun x152=>(chk (a-1)).bind fun z159=>some (.inl (z159,((b.set a.toNat (x94.1,(x94.2.1,x94.2.2))).set z90.toNat (x119.1,(x119.2.1,x119.2.2)))))) (some (.inr (a,b)))) (some (.inr (a,b)))

def slices_insertionSortCmpFunc_piece_canon_pieces_c1_b0 (n:Nat) (d:Int) (e:Int):Int×(List ((List Int)×((List Int)×Int)))→Option ((Int×(List ((List Int)×((List Int)×Int))))⊕((Int×(List ((List Int)×((List Int)×Int))))))
  | (a,b)=>cond (decide (a<e)) (((loopN n (F.slices_insertionSortCmpFunc_piece_canon_pieces_c1_b1 n d) (a,b)).bind fun o17=>match o17 with
    | (f,c)=>(chk (a+1)).bind fun z163=>some (.inl (z163,c)))) (some (.inr (a,b)))

def slices_insertionSortCmpFunc_piece_canon_pieces_c1 (n:Nat) (a:List ((List Int)×((List Int)×Int))) (c:Int) (d:Int):Option ((List ((List Int)×((List Int)×Int)))):=
  (chk (c+1)).bind fun z3=>((loopN n (F.slices_insertionSortCmpFunc_piece_canon_pieces_c1_b0 n c d) (z3,a)).bind fun o5=>match o5 with
    | (e,b)=>some b)

def slices_stableCmpFunc_piece_canon_pieces_c1_b2 (n:Nat) (a:Int) (z40:Int):Unit→Option ((Unit)⊕((Unit)))
  | ()=>cond (decide (z40≤a)) (none) (some (.inr ()))

def slices_stableCmpFunc_piece_canon_pieces_c1_b1 (n:Nat) (b:Int):Int×Int×Int→Option ((Int×Int×Int)⊕((Int×Int×Int)))
  | (a,c,d)=>cond (decide (a<b)) ((chk (2*a)).bind fun z40=>((loopN n (F.slices_stableCmpFunc_piece_canon_pieces_c1_b2 n b z40) ()).bind fun o43=>match o43 with
    | ()=>(chk (0+a)).bind fun z58=>cond (decide (z58<b)) (none) ((chk (a*2)).bind fun z62=>some (.inl (z62,0,z40))))) (some (.inr (a,c,d)))

def slices_stableCmpFunc_piece_canon_pieces_c1_b0 (n:Nat) (d:Int):Int×Int×(List ((List Int)×((List Int)×Int)))→Option ((Int×Int×(List ((List Int)×((List Int)×Int))))⊕((Int×Int×(List ((List Int)×((List Int)×Int))))))
  | (c,a,b)=>cond (decide (a≤d)) ((F.slices_insertionSortCmpFunc_piece_canon_pieces_c1 n b c a).bind fun y16=>(chk (a+20)).bind fun z21=>some (.inl (a,z21,y16))) (some (.inr (c,a,b)))

def slices_stableCmpFunc_piece_canon_pieces_c1 (n:Nat) (b:List ((List Int)×((List Int)×Int))) (a:Int):Option ((List ((List Int)×((List Int)×Int)))):=
  ((loopN n (F.slices_stableCmpFunc_piece_canon_pieces_c1_b0 n a) (0,20,b)).bind fun o5=>match o5 with
    | (c,e,d)=>(F.slices_insertionSortCmpFunc_piece_canon_pieces_c1 n d c a).bind fun y26=>((loopN n (F.slices_stableCmpFunc_piece_canon_pieces_c1_b1 n a) (20,c,e)).bind fun o29=>match o29 with
    | (f,g,h)=>some y26))


def slices_SortStableFunc_piece_piece_canon_pieces_c1 (n:Nat) (a:List ((List Int)×((List Int)×Int))):Option ((List ((List Int)×((List Int)×Int)))):=
  (F.slices_stableCmpFunc_piece_canon_pieces_c1 n a (a.length:Int)).bind fun y2=>some y2

def canon_pieces_b1 (n:Nat) (e:List Int) (f:List Int) (g:Int) (x32:List Int):Int×(List Int)×(List Int)×Int→Option ((Int×(List Int)×(List Int)×Int)⊕((Int×(List Int)×(List Int)×Int)))
  | (b,a,c,d)=>cond (decide (b<(x32.length:Int))) ((get x32 b).bind fun x63=>(F.canon_number n e f g x63 a).bind fun y70=>cond (decide (y70.2.2<0)) ((chk (b+1)).bind fun z91=>some (.inl (z91,y70.1,y70.2.1,1))) (cond (decide (y70.2.2=0)) ((chk (d+1)).bind fun z95=>(chk (b+1)).bind fun z98=>some (.inl (z98,a,c,z95))) ((chk (b+1)).bind fun z100=>some (.inl (z100,a,c,d))))) (some (.inr (b,a,c,d)))

def canon_pieces_b0 (n:Nat) (f:List Int) (g:List Int) (h:Int) (y10:(List (List Int))):(List ((List Int)×((List Int)×Int)))×Int→Option (((List ((List Int)×((List Int)×Int)))×Int)⊕(((List ((List Int)×((List Int)×Int)))×Int)))
  | (e,a)=>cond (decide (a<(y10.length:Int))) ((get y10 a).bind fun x32=>((loopN n (F.canon_pieces_b1 n f g h x32) (0,([]:List Int),([]:List Int),0)).bind fun o51=>match o51 with
    | (i,b,c,d)=>(lim (e.length+([(b,(c,d))]:List ((List Int)×((List Int)×Int))).length)).bind fun u110=>(chk (a+1)).bind fun z117=>some (.inl ((e++([(b,(c,d))]:List ((List Int)×((List Int)×Int)))),z117)))) (some (.inr (e,a)))

def canon_pieces (n:Nat) (a:List Int) (b:List Int) (c:Int):Option ((List ((List Int)×((List Int)×Int)))):=
  (F.diagram_Graph n a b c).bind fun y10=>((loopN n (F.canon_pieces_b0 n a b c y10) (([]:List ((List Int)×((List Int)×Int))),0)).bind fun o20=>match o20 with
    | (d,e)=>(F.slices_SortStableFunc_piece_piece_canon_pieces_c1 n d).bind fun y122=>some y122)

def canon_Code_b0 (n:Nat) (y16:(List ((List Int)×((List Int)×Int)))):(List Int)×Int→Option (((List Int)×Int)⊕(((List Int)×Int)))
  | (b,a)=>cond (decide (a<(y16.length:Int))) ((get y16 a).bind fun x47=>(lim (b.length+([(x47.2.1.length:Int)]:List Int).length)).bind fun u82=>(lim ((b++([(x47.2.1.length:Int)]:List Int)).length+x47.1.length)).bind fun u90=>(chk (a+1)).bind fun z97=>some (.inl (((b++([(x47.2.1.length:Int)]:List Int))++x47.1),z97))) (some (.inr (b,a)))

def canon_Code (n:Nat) (b:List Int) (c:List Int) (a:Int):Option ((List Int)):=
  (F.diagram_Valid n b c a).bind fun y9=>cond (!y9) (some ([])) ((F.canon_pieces n b c a).bind fun y16=>((loopN n (F.canon_Code_b0 n y16) (([a,(y16.length:Int)]:List Int),0)).bind fun o35=>match o35 with
    | (d,e)=>some d))


def canon_Same (n:Nat) (a:List Int) (b:List Int) (c:Int) (d:List Int) (e:List Int) (f:Int):Option (Bool):=
  (F.diagram_Valid n a b c).bind fun y14=>cond (!y14) (some false) ((F.diagram_Valid n d e f).bind fun y19=>cond (!y19) (some false) ((F.canon_Code n a b c).bind fun y28=>(F.canon_Code n d e f).bind fun y37=>(F.slices_Equal_Lint_int n y28 y37).bind fun y46=>some y46))

def law46_PolygonStarts_b0 (n:Nat) (e:List (List (Int×(Int×Int)))) (b:Int):(List (List (Int×(Int×Int))))×(List (List (Int×(Int×Int))))×Int→Option (((List (List (Int×(Int×Int))))×(List (List (Int×(Int×Int))))×Int)⊕(((List (List (Int×(Int×Int))))×(List (List (Int×(Int×Int))))×Int)))
  | (c,d,a)=>cond (decide (a<(e.length:Int))) ((get e a).bind fun x56=>(nz (x56.length:Int)).bind fun u68=>(cut (Int.tmod b (x56.length:Int)) (x56.length:Int) x56.length).bind fun u74=>(cut 0 (Int.tmod b (x56.length:Int)) x56.length).bind fun u83=>(F.slices_Concat_Point_Point n ([((x56.drop (Int.tmod b (x56.length:Int)).toNat).take ((x56.length:Int).toNat-(Int.tmod b (x56.length:Int)).toNat)),((x56.drop (0:Int).toNat).take ((Int.tmod b (x56.length:Int)).toNat-(0:Int).toNat))]:List (List (Int×(Int×Int))))).bind fun y98=>(lim (([y98]:List (List (Int×(Int×Int)))).length+c.length)).bind fun u113=>(F.slices_Clone_Point_Point n x56).bind fun y122=>(F.slices_Reverse_Point_Point n y122).bind fun y132=>(lim (d.length+([y132]:List (List (Int×(Int×Int)))).length)).bind fun u141=>(chk (a+1)).bind fun z148=>some (.inl ((([y98]:List (List (Int×(Int×Int))))++c),(d++([y132]:List (List (Int×(Int×Int))))),z148))) (some (.inr (c,d,a)))

def law46_PolygonStarts (n:Nat) (a:List (List (Int×(Int×Int)))) (b:Int):Option (Bool):=
  (F.law46_awake n).bind fun y5=>cond (!y5) (some false) ((F.law46_generic n a).bind fun y11=>cond (!y11.2.2.2) (some true) (cond (decide ((a.length:Int)=0)) (some true) (((loopN n (F.law46_PolygonStarts_b0 n a b) (([]:List (List (Int×(Int×Int)))),([]:List (List (Int×(Int×Int)))),0)).bind fun o44=>match o44 with
    | (c,d,e)=>(F.polygon_Project n c).bind fun y153=>(F.polygon_Project n d).bind fun y175=>(F.mirror_Reverse n y11.1 y11.2.1 y11.2.2.1).bind fun y198=>cond (decide (y153.2.2.2=0)) (cond (decide (y175.2.2.2=0)) (cond (decide (y198.2.2.2=0)) ((F.canon_Same n y153.1 y153.2.1 y153.2.2.1 y11.1 y11.2.1 y11.2.2.1).bind fun y223=>cond y223 ((F.canon_Same n y175.1 y175.2.1 y175.2.2.1 y198.1 y198.2.1 y198.2.2.1).bind fun y227=>some y227) (some false)) (some false)) (some false)) (some false)))))

end F
end Go.Proofs.Yteajmbanlohncaa
